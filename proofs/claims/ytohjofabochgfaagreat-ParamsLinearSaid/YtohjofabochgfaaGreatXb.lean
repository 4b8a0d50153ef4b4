/- A symbolic machine for Go code over plain data, and functions of the program as it shows them. No statement is proved in this file. -/
import Derived.ProofKit
import Derived.Below
import Derived.OpenShut
import Derived.SizedLaws
import Derived.WalkKit
import Derived.ChangeOld
import Derived.Test.YtohjofabochgfaaGreatXa
set_option linter.unusedSimpArgs false
set_option linter.unusedVariables false
set_option linter.unusedSectionVars false

namespace Go.Proofs.YtohjofabochgfaaGreat
namespace Sx
open Go
def Xe (R:Ctx):Out->Ending->World->Prop
 |.ret e,en,w'=>∃ v R',en=.returned v/\eD R R' w' e.upd/\SV.rel R' e.v v
 |.pan sv u,en,w'=>∃ v R',en=.panicked [{v,recovered:=false}]/\eD R R' w' u/\SV.rel R' sv v
def aqT (P:Program) (f:FuncId) (vs:Array Value) (w:World) (Q:Ending->World->Prop):Prop:=
 (∃ fn,P.funcs[f]? =some fn/\(fn.name== "runtime.NumGoroutine")=false/\fn.body.isNone=false/\Calls P f vs w Q)\/
 ∃ v w',(callFunc f vs).run P w=.ok (.value v) w'/\Q (.returned v) w'
structure ac (P:Program) (f:FuncId) (s:cN):Prop where
 calls:∀ (R:Ctx) (w:World) (d:Nat) (args:List SV) (vs:List Value) (out:Out),dg R w->SV.bM R args vs->(s.f d args R.hp).run=some out->aqT P f vs.toArray w (Xe R out)
def aW (P:Program) (Φ:Env):Prop:=∀ f s,Φ f=some s->ac P f s
section
variable {P:Program} {R:Ctx} {w:World}
theorem MI {x:SV} {i:Int} {v:Value} (h:idxOf x=some i) (hx:SV.rel R x v):∃ kd,v=.int kd i:=by
 unfold idxOf at h
 split at h
 ·cases h
  simp only [SV.rel] at hx
  exact ⟨_,hx.1⟩
 ·cases h
  simp only [SV.rel] at hx
  exact ⟨_,hx⟩
 ·cases h
  simp only [SV.rel] at hx
  exact ⟨_,hx⟩
 ·cases h
theorem Gu:∀ {ms:List (String×FuncId)} {name:String} {f:FuncId},VW ms name=some f->(name,f) ∈ ms
 | [],_,_,h=>by cases h
 |(n,g)::r,name,f,h=>by
  simp only [VW] at h
  cases hb:n==name
  ·rw [hb] at h
   exact List.mem_cons_of_mem _ (Gu h)
  ·rw [hb] at h
   cases h
   have:n=name:=by simpa using hb
   subst this
   exact List.mem_cons_self ..
theorem YK {te:TE} (hte:kN P te) {t:TypeId} {name:String} {f:FuncId} (h:ad1 te t name=some f) (y:Value) (n:Nat) (hn:n=P.types.size+Made.depth):(method n t y name).run P w=.ok (f,y) w:=by
 unfold ad1 at h
 split at h
 ·rename_i sz by' ms ze ty hT
  obtain ⟨d,hu,hd⟩:=(hte t _ hT).desc
  obtain ⟨⟨e,rfl⟩,hm⟩:=hd
  obtain ⟨i,m,h1,h2,h3,h4⟩:=hm _ (Gu h)
  subst hn
  have hfuel:P.types.size+Made.depth=(P.types.size+Made.depth-1)+1:=by
   have:0<Made.depth:=by decide
   omega
  rw [hfuel]
  simp [method,typeInfo,h1,h2,h3,h4,follow,receiverAt,run_underlying hu,Place.get]
 ·cases h
theorem qA {st:St} {a:Act} (h:rk R st a w) (x:Operand):SV.rel R (st.eval x) (a.eval x):=by
 cases x with
 |tmp t=>
  simp only [St.eval,Act.eval]
  have hl:=SV.aP h.tm
  simp only [Array.length_toList] at hl
  by_cases ht:t<st.tm.length
  ·have ht':t<a.tmps.size:=by simpa [hl] using ht
   have:=SV.kr h.tm t ht (by simpa using ht')
   simpa [List.getD_eq_getElem?_getD,List.getElem?_eq_getElem ht,Array.getD,ht'] using this
  ·simp [List.getD_eq_getElem?_getD,List.getElem?_eq_none (Nat.le_of_not_lt ht),SV.rel]
 |const v=>
  simp only [St.eval,Act.eval,anL]
  split
  ·rename_i cs
   split
   ·rename_i h1
    simp only [SV.rel]
    exact ⟨cs.toList,by simp,rG _,λu hu=>List.all_eq_true.1 h1 u hu⟩
   ·simp only [SV.rel]
  ·exact Fq _
 |global g=>simp [St.eval,SV.rel]
 |func f=>
  simp [St.eval,Act.eval,SV.rel,SV.bM]
theorem I2 {α β:Type} (f:α->β) (xs:Array α):Array.map f xs=(xs.toList.map f).toArray:=by
 apply Array.ext'
 simp
theorem HS {st:St} {a:Act} (h:rk R st a w):∀ (l:List Operand),SV.bM R (l.map st.eval) (l.map a.eval)
 | []=>pH
 |x::l=>by
  simp only [List.map_cons,SV.bM]
  exact ⟨_,_,rfl,qA h x,HS h l⟩
theorem Me {st:St} {a:Act} (h:rk R st a w) (ps:Array (Nat×Operand)):J6 R (ps.toList.map λp=>(p.1,st.eval p.2)) (ps.map λ(i,x)=>(i,a.eval x)).toList:=by
 refine ⟨by simp,λi hi hi'=> ?_⟩
 simp only [List.getElem_map,Array.toList_map,true_and]
 exact qA h _
theorem bp {x:OT SV} {o:Out} (h:(iz x).run=some o):∃ z,x.run=some z/\o=.ret ⟨z,[]⟩:=by
 obtain ⟨z,h1,h2⟩:=OT.run_map h
 exact ⟨z,h1,h2⟩
theorem mY {x:OT Eff} {o:Out} (h:(eff x).run=some o):∃ e,x.run=some e/\o=.ret e:=by
 obtain ⟨z,h1,h2⟩:=OT.run_map h
 exact ⟨z,h1,h2⟩
def age (R:Ctx) (a:Act) (dst:Option Tmp) (out:Out) (next:Act->World->Prop) (Q:Exit->Act->World->Prop):Prop:=
 match out with
 |.ret e=>∀ R' w' v,eD R R' w' e.upd->SV.rel R' e.v v->next (a.put dst v) w'
 |.pan sv u=>∀ R' w' v,eD R R' w' u->SV.rel R' sv v->Q (.panic [{v,recovered:=false}]) a w'
theorem di {o:Oper} {a:Act} {z:SV} {next:Act->World->Prop} {Q:Exit->Act->World->Prop} {s:Sem Value} (hm:dg R w) (hs:execOp a.eval o=do pure (.value (<-s))) (h:iT P R w s z)
 (hn:age R a o.dst (.ret ⟨z,[]⟩) next Q):o.wp P a w next Q:=by
 obtain ⟨v,h1,h2⟩:=h
 unfold Oper.wp
 rw [hs]
 simp only [Sem.run_bind,h1,Result.andThen_ok,Sem.run_pure]
 exact hn R w v (eD.nothing hm) h2
theorem ko {o:Oper} {a:Act} {e:Eff} {next:Act->World->Prop} {Q:Exit->Act->World->Prop} {s:Sem Value} (hs:execOp a.eval o=do pure (.value (<-s))) (h:DI P R w s e)
 (hn:age R a o.dst (.ret e) next Q):o.wp P a w next Q:=by
 obtain ⟨v,w',R',h1,h2,h3⟩:=h
 unfold Oper.wp
 rw [hs]
 simp only [Sem.run_bind,h1,Result.andThen_ok,Sem.run_pure]
 exact hn R' w' v h2 h3
theorem uB (hm:dg R w) {te:TE} (hte:kN P te) {T:TypeId} {ti:TI} (hT:te T=some ti) {x:SV} {v:Value} {cs:List SV} (hx:SV.rel R x v) (h:(Sx.loadCells R.hp ti.size x).run=some cs):
 ∃ ad,v=.pointer (some ad)/\iT P R w (loadVar T ad) (nB ti.desc.agg cs):=by
 have ht:=hte T ti hT
 obtain ⟨b,o,arr,E,fz,rfl,hb,hsz,hr,hone⟩:=Cw hm hx h
 refine ⟨_,rfl,?_⟩
 cases ha:ti.desc.agg
 ·have h1:=ht.one ha
  rw [h1] at hsz hr
  refine ⟨arr[o],?_,adZ hsz hr⟩
  simp only [loadVar,Sem.run_bind,ht.A6 w,ha,Result.andThen_ok,Bool.false_eq_true,if_false]
  exact KT hb hsz
 ·refine ⟨_,?_,uw hr hone⟩
  simp only [loadVar,Sem.run_bind,ht.A6 w,ha,Result.andThen_ok,if_true,ht.bX w,yK hb hsz,Sem.run_pure]
theorem ES (hm:dg R w) {te:TE} (hte:kN P te) {T:TypeId} {ti:TI} (hT:te T=some ti) {x y:SV} {v u:Value} {l:List SV} {up:List (Nat×Ch)} (hx:SV.rel R x v) (hy:SV.rel R y u) (hl:y.cells=some l)
 (hsz:l.length=ti.size) (h:(Sx.storeCells R.hp l x).run=some up):∃ ad w' R',v=.pointer (some ad)/\(storeVar T ad u).run P w=.ok () w'/\eD R R' w' up:=by
 have ht:=hte T ti hT
 obtain ⟨vs,h1,h2,h3⟩:=Ba hy hl
 have hlen:=SV.aP h2
 obtain ⟨ad,w',R',rfl,h4,h5⟩:=zW (P:=P) hm hx h2 h
 refine ⟨ad,w',R',rfl,?_,h5⟩
 simp only [storeVar,Sem.run_bind,ht.bX w,Result.andThen_ok,h1,Sem.run_ite,List.size_toArray]
 rw [if_neg (by omega)]
 exact h4
theorem GU {te:TE} {Φ:Env} (hte:kN P te) (hΦ:aW P Φ) {st:St} {a:Act} {o:Oper} {d:Nat} {out:Out} (hst:rk R st a w) (h:(GV te Φ st.hp d st.eval o.op).run=some out)
 {next:Act->World->Prop} {Q:Exit->Act->World->Prop} (hn:age R a o.dst out next Q):o.wp P a w next Q:=by
 have hm:=hst.mem
 have ev:=qA hst
 rw [<-hst.hp] at h
 obtain ⟨dst,op,type,pos,after,guard⟩:=o
 simp only at h hn
 cases op<;>simp only [GV] at h<;>try (cases h;done)
 case move x=>
  obtain ⟨z,h1,rfl⟩:=bp h
  cases h1
  exact hn R w _ (eD.nothing hm) (ev x)
 case assign x=>
  obtain ⟨z,h1,rfl⟩:=bp h
  cases h1
  exact hn R w _ (eD.nothing hm) (ev x)
 case pick c x y=>
  split at h
  ·rename_i b hb
   obtain ⟨z,h1,rfl⟩:=bp h
   have hc:=ev c
   rw [hb] at hc
   simp only [SV.rel] at hc
   have hrun:(execOp a.eval (Oper.mk dst (.pick c x y) type pos after guard)).run P w=.ok (.value (if b then a.eval x else a.eval y)) w:=by
    simp [execOp,hc,asBool]
   unfold Oper.wp
   rw [hrun]
   cases b
   ·cases h1;exact hn R w _ (eD.nothing hm) (ev y)
   ·cases h1;exact hn R w _ (eD.nothing hm) (ev x)
  ·cases h
 case alloc T=>
  split at h
  ·rename_i ti hT
   obtain ⟨e,h1,rfl⟩:=mY h
   have ht:=hte T ti hT
   obtain ⟨i,z,z1,z2,z3,z4,z5,z6,z7⟩:=ht.py (R:=R)
   obtain ⟨ad,w',R',r1,r2,r3⟩:=yW (P:=P) hm (v:=z) (vs:=z.cells.toList) (by simp) z5 z7 (by have:=ht.small;simp [z6,cw];omega) h1
   refine ko rfl ⟨_,w',R',?_,r2,r3⟩ hn
   simp only [Instr.alloc,Sem.run_bind,zeroValue,typeInfo,run_program,Result.andThen_ok,z1,z4,Sem.run_pure,r1]
  ·cases h
 case box T x=>
  split at h
  ·rename_i l hl
   obtain ⟨e,h1,rfl⟩:=mY h
   obtain ⟨vs,v1,v2,v3⟩:=Ba (ev x) hl
   have hlen:=SV.aP v2
   have hsz:l.length<=16777216:=by
    unfold Sx.newVar at h1
    split at h1
    ·cases h1
    ·rename_i ti hT
     split at h1
     ·cases h1
     ·rename_i hh
      have:=(hte T ti hT).small
      have hh:l.length=ti.size:=by simpa using hh
      omega
   obtain ⟨ad,w',R',r1,r2,r3⟩:=yW (P:=P) hm (v:=a.eval x) (vs:=vs) v1 v2 v3 (by unfold cw;omega) h1
   refine ko rfl ⟨_,w',R',?_,r2,r3⟩ hn
   simp only [Instr.box,Sem.run_bind,Sem.run_pure,Result.andThen_ok,r1]
  ·cases h
 case build T ps=>
  obtain ⟨z,h1,rfl⟩:=bp h
  exact di hm rfl (RH hte h1 (Me hst ps)) hn
 case buildSlice T len ps=>
  obtain ⟨e,h1,rfl⟩:=mY h
  exact ko rfl (Ah hm hte h1 (Me hst ps)) hn
 case load T x=>
  split at h
  ·rename_i ti hT
   obtain ⟨z,h1,rfl⟩:=bp h
   obtain ⟨cs,h2,rfl⟩:=OT.run_map h1
   obtain ⟨ad,hv,hg⟩:=uB (P:=P) hm hte hT (ev x) h2
   refine di hm rfl ?_ hn
   obtain ⟨v,g1,g2⟩:=hg
   refine ⟨v,?_,g2⟩
   simp only [Instr.loadAt,hv,Instr.sureAddr,Sem.run_bind,Sem.run_pure,Result.andThen_ok,g1]
  ·cases h
 case store T x y=>
  split at h
  ·rename_i ti hT
   split at h
   ·rename_i l hl
    split at h
    ·rename_i hsz
     obtain ⟨u,h1,rfl⟩:=OT.run_map h
     obtain ⟨ad,w',R',hv,g1,g2⟩:=ES (P:=P) hm hte hT (ev x) (ev y) hl hsz h1
     have hrun:(execOp a.eval (Oper.mk dst (.store T x y) type pos after guard)).run P w=.ok .skip w':=by
      simp only [execOp,Instr.storeAt,hv,Instr.sureAddr,Sem.run_bind,Sem.run_pure,Result.andThen_ok,g1]
     unfold Oper.wp
     rw [hrun]
     exact hn R' w' _ g2 (by simp only [SV.rel])
    ·cases h
   ·cases h
  ·cases h
 case nilCheck x=>
  have hx:=ev x
  have hrun:∀ ad,a.eval x=.pointer (some ad)->(execOp a.eval (Oper.mk dst (.nilCheck x) type pos after guard)).run P w=.ok (.value (a.eval x)) w:=λad hv=>by
   simp [execOp,hv]
  split at h
  ·rename_i c e i off hs
   obtain ⟨z,h1,rfl⟩:=bp h
   cases h1
   rw [hs] at hx
   have hx':=hx
   simp only [SV.rel] at hx
   obtain ⟨⟨ad,hv⟩,_⟩:=hx
   unfold Oper.wp
   rw [hrun ad hv]
   exact hn R w _ (eD.nothing hm) hx'
  ·rename_i t xs i off hs
   obtain ⟨z,h1,rfl⟩:=bp h
   cases h1
   rw [hs] at hx
   have hx':=hx
   simp only [SV.rel] at hx
   obtain ⟨_,b,o,arr,E,fz,hv,_⟩:=hx
   unfold Oper.wp
   rw [hrun _ hv]
   exact hn R w _ (eD.nothing hm) hx'
  ·rename_i t y hs
   obtain ⟨z,h1,rfl⟩:=bp h
   cases h1
   rw [hs] at hx
   have hx':=hx
   simp only [SV.rel] at hx
   obtain ⟨y',hv,_⟩:=hx
   have hrun2:(execOp a.eval (Oper.mk dst (.nilCheck x) type pos after guard)).run P w=.ok (.value (a.eval x)) w:=by simp [execOp,hv]
   unfold Oper.wp
   rw [hrun2]
   exact hn R w _ (eD.nothing hm) hx'
  ·cases h
 case binOp op T x y T2=>
  split at h
  ·rename_i hy
   obtain ⟨z,h1,rfl⟩:=bp h
   have hy':∃ n c,a.eval y=.slice none n c:=by
    unfold GA at hy
    split at hy
    ·exact ⟨_,_,rfl⟩
    ·cases hy
   obtain ⟨n,c,hyv⟩:=hy'
   obtain ⟨⟨q,l,k,hxv⟩,u,hu1,hu2⟩:=IC (P:=P) (w:=w) hte h1 (ev x) ⟨n,c,hyv⟩
   exact di hm rfl ⟨u,eI (X:=x) (Y:=y) (by rw [hxv,hyv];simp [eqGuard]) hu1,hu2⟩ hn
  ·obtain ⟨z,h1,rfl⟩:=bp h
   exact di hm rfl (NS hte h1 (ev x) (ev y)) hn
 case sliceToArrayPointer T x=>
  obtain ⟨z,h1,rfl⟩:=bp h
  exact di hm rfl (Fa hte h1 (ev x)) hn
 case unOp op T x=>
  obtain ⟨z,h1,rfl⟩:=bp h
  exact di hm rfl (Xs h1 (ev x)) hn
 case convert src dst' x=>
  split at h
  ·rename_i s hs
   obtain ⟨z,h1,rfl⟩:=bp h
   cases h1
   obtain ⟨u,w',R',r1,r2,r3⟩:=JO (P:=P) hm hte hs (ev x)
   exact ko rfl ⟨u,w',R',r1,r2,r3⟩ hn
  ·split at h
   ·rename_i hs
    obtain ⟨z,h1,rfl⟩:=mY h
    cases h1
    exact ko rfl (Af (P:=P) hm hte hs (ev x)) hn
   ·obtain ⟨z,h1,rfl⟩:=bp h
    exact di hm rfl (JD hte h1 (ev x)) hn
 case makeInterface T x=>
  split at h
  ·rename_i ti hT
   obtain ⟨ds,hu,hd⟩:=(hte T ti hT).desc
   have hmk:∀ y:Value,(Instr.makeInterface T y).run P w=.ok (.iface T y) w\/(match ti.desc with|.iface=>True|.other=>True|_=>False):=λy=>by
    unfold Instr.makeInterface
    simp only [Sem.run_bind,run_underlying hu,Result.andThen_ok]
    cases hk:ti.desc<;>rw [hk] at hd<;>simp only at hd<;>first
     |(exact .inr trivial;done)
     |(left;obtain ⟨_,rfl,_⟩:=hd;rfl)
     |(left;obtain ⟨⟨_,rfl⟩,_⟩:=hd;rfl)
     |(left;subst hd;rfl)
   have hq:¬(match ti.desc with|.iface=>True|.other=>True|_=>False):=λhq=>by
    cases hk:ti.desc<;>rw [hk] at hq h<;>first|exact hq|(simp only at h;cases h)
   have h2:(iz (.ok (.iface T (st.eval x)))).run=some out:=by
    cases hk:ti.desc<;>rw [hk] at h hq<;>first|exact h|(exact absurd trivial hq)
   obtain ⟨z,h1,rfl⟩:=bp h2
   cases h1
   refine di hm rfl ⟨.iface T (a.eval x),(hmk _).resolve_right hq,?_⟩ hn
   simp only [SV.rel]
   exact ⟨_,rfl,ev x⟩
  ·cases h
 case makeFunc f first caps=>
  obtain ⟨z,h1,rfl⟩:=bp h
  cases h1
  refine di hm rfl ⟨_,rfl,?_⟩ hn
  simp only [SV.rel]
  exact ⟨first.toList.map a.eval,caps.toList.map a.eval,by rw [I2,I2],HS hst _,HS hst _⟩
 case makeSlice T l c=>
  split at h
  ·rename_i l' c' hl hc
   obtain ⟨e,h1,rfl⟩:=mY h
   have e1:=ev l
   have e2:=ev c
   rw [hl] at e1
   rw [hc] at e2
   simp only [SV.rel] at e1 e2
   have:=Cp (P:=P) hm hte h1
   rw [<-e1.1,<-e2.1] at this
   exact ko rfl this hn
  ·cases h
 case slice T x lo hi mx=>
  obtain ⟨z,h1,rfl⟩:=bp h
  have some_rel:∀ (q:Option Operand) (y:SV),q.map st.eval=some y->∃ v,q.map a.eval=some v/\SV.rel R y v:=λq y hy=>by
   cases q with
   |none=>cases hy
   |some u=>cases hy;exact ⟨_,rfl,ev u⟩
  have none_rel:∀ (q:Option Operand),q.map st.eval=none->q.map a.eval=none:=λq hq=>by
   cases q with
   |none=>rfl
   |some u=>cases hq
  exact di hm rfl (HN hm hte h1 (ev x) (some_rel lo) (none_rel lo) (some_rel hi) (none_rel hi) (some_rel mx) (none_rel mx)) hn
 case fieldAddr S x f=>
  split at h
  ·rename_i fs _ _ hS
   split at h
   ·rename_i o fi hf
    split at h
    ·cases h
    ·rename_i h0
     obtain ⟨z,h1,rfl⟩:=bp h
     exact di hm rfl (C5 hte hS rfl hf h0 h1 (ev x)) hn
   ·cases h
  ·cases h
 case field S x f=>
  split at h
  ·rename_i fs _ _ l hS hl
   split at h
   ·rename_i o fi hf
    split at h
    ·rename_i hle
     obtain ⟨z,h1,rfl⟩:=bp h
     cases h1
     have hx:=ev x
     rw [hl] at hx
     exact di hm rfl (Rc hte hS rfl hf hle hx) hn
    ·cases h
   ·cases h
  ·cases h
 case indexAddr T x k=>
  split at h
  ·rename_i i hk
   obtain ⟨z,h1,rfl⟩:=bp h
   obtain ⟨kd,e1⟩:=MI hk (ev k)
   have:=CB (P:=P) (w:=w) (kd:=kd) hte h1 (ev x)
   rw [<-e1] at this
   exact di hm rfl this hn
  ·cases h
 case index T x k=>
  split at h
  ·rename_i i hk
   obtain ⟨z,h1,rfl⟩:=bp h
   obtain ⟨kd,e1⟩:=MI hk (ev k)
   have:=E6 (P:=P) (w:=w) (kd:=kd) hte h1 (ev x)
   rw [<-e1] at this
   exact di hm rfl this hn
  ·cases h
 case extract t i=>
  split at h
  ·rename_i l hl
   split at h
   ·rename_i v hv
    obtain ⟨z,h1,rfl⟩:=bp h
    cases h1
    have hx:=ev t
    rw [hl] at hx
    simp only [SV.rel] at hx
    obtain ⟨vs,he,hr⟩:=hx
    have hlen:=SV.aP hr
    obtain ⟨hi,hvi⟩:=List.getElem?_eq_some_iff.1 hv
    refine di hm rfl ⟨vs[i]'(by omega),?_,?_⟩ hn
    ·simp [Instr.extract,he,show i<vs.length by omega]
    ·rw [<-hvi];exact SV.kr hr i hi (by omega)
   ·cases h
  ·cases h
 case call c=>
  obtain ⟨callee,args,argTypes⟩:=c
  simp only at h
  have hargs:=HS hst args.toList
  have go:∀ (f':FuncId) (s:cN) (us:List SV) (l:List Value),Φ f'=some s->SV.bM R us l->(s.f d us R.hp).run=some out->
   (∀ r,(execOp a.eval (Oper.mk dst (.call {callee:=callee,args,argTypes}) type pos after guard)).run P w=r ↔ (callFunc f' l.toArray).run P w=r)->(Oper.mk dst (.call {callee:=callee,args,argTypes}) type pos after guard).wp P a w next Q:=by
   intro f' s us l hs hr hout hexec
   have hc:=(hΦ _ _ hs).calls R w d us l out hm hr hout
   rcases hc with ⟨fn,f1,f2,f3,hc⟩|⟨v,w',hv,hp⟩
   ·have hrun:(callFunc f' l.toArray).run P w=.ok (.enter f' l.toArray) w:=by
     have f2':¬fn.name= "runtime.NumGoroutine" :=by simpa using f2
     have f3':¬fn.body=none:=λe=>by rw [e] at f3;simp at f3
     simp [callFunc,f1,f2',f3']
    unfold Oper.wp
    rw [(hexec _).2 hrun,Oper.upon_enter]
    refine hc.mono λen w' hp=> ?_
    cases out with
    |ret e=>
     obtain ⟨v,R',rfl,p1,p2⟩:=hp
     exact hn R' w' v p1 p2
    |pan sv u=>
     obtain ⟨v,R',rfl,p1,p2⟩:=hp
     exact hn R' w' v p1 p2
   ·unfold Oper.wp
    rw [(hexec _).2 hv]
    cases out with
    |ret e=>
     obtain ⟨v',R',he,p1,p2⟩:=hp
     cases he
     exact hn R' w' v p1 p2
    |pan sv u=>
     obtain ⟨v',R',he,p1,p2⟩:=hp
     cases he
  split at h
  ·rename_i f
   unfold afG at h
   split at h
   ·rename_i f' first caps hf
    split at h
    ·rename_i s hs
     have hx:=ev f
     rw [hf] at hx
     simp only [SV.rel] at hx
     obtain ⟨l1,l2,he,r1,r2⟩:=hx
     refine go f' s _ (l1++args.toList.map a.eval++l2) hs (SV.cD (SV.cD r1 hargs) r2) h λr=> ?_
     have:(execOp a.eval (Oper.mk dst (.call {callee:=.value f,args,argTypes}) type pos after guard)).run P w=(callFunc f' (l1++args.toList.map a.eval++l2).toArray).run P w:=by
      simp [execOp,resolve,he,Deferred.ofValue,invoke,I2]
     rw [this]
    ·cases h
   ·cases h
  ·rename_i recv name
   unfold JN at h
   split at h
   ·rename_i t v hv
    split at h
    ·rename_i f' hf
     split at h
     ·rename_i s hs
      have hx:=ev recv
      rw [hv] at hx
      simp only [SV.rel] at hx
      obtain ⟨y,he,hy⟩:=hx
      refine go f' s (v::args.toList.map st.eval) (y::args.toList.map a.eval) hs (by simp only [SV.bM];exact ⟨_,_,rfl,hy,hargs⟩) h λr=> ?_
      have hmeth:=YK (P:=P) (w:=w) hte hf y _ rfl
      have:(execOp a.eval (Oper.mk dst (.call {callee:=.invoke recv name,args,argTypes}) type pos after guard)).run P w=(callFunc f' (y::args.toList.map a.eval).toArray).run P w:=by
       have e1:(Array.map a.eval args)=(args.toList.map a.eval).toArray:=I2 _ _
       have e2:(#[Value.iface t y]++(args.toList.map a.eval).toArray)[0]? =some (.iface t y):=by simp
       have e3:(#[Value.iface t y]++(args.toList.map a.eval).toArray).extract 1 (#[Value.iface t y]++(args.toList.map a.eval).toArray).size=(args.toList.map a.eval).toArray:=by
        apply Array.ext'
        simp only [Array.toList_extract,Array.toList_append,List.extract_eq_take_drop]
        simp
        exact List.take_of_length_le (by simp)
       have e4: #[y]++(args.toList.map a.eval).toArray=(y::args.toList.map a.eval).toArray:=by simp
       simp only [execOp,resolve,he,e1,Sem.run_bind,Sem.run_pure,Result.andThen_ok,invoke,e2,e3,callMethod,run_program,hmeth,e4]
      rw [this]
     ·cases h
    ·cases h
   ·cases h
  ·split at h
   ·rename_i x T Ts hax hat
    obtain ⟨z,h1,rfl⟩:=bp h
    have ha:args= #[x]:=by apply Array.ext';simpa using hax
    have hat':argTypes=(T::Ts).toArray:=by apply Array.ext';simpa using hat
    subst ha
    have:=QU (P:=P) (Tr:=type) (Ts:=Ts) hm hte h1 (ev x)
    rw [<-hat'] at this
    refine di hm ?_ this hn
    simp [execOp,resolve,invoke,builtin]
   ·cases h
  ·split at h
   ·rename_i s x T T' hax hat
    split at h
    ·rename_i hsl
     obtain ⟨e,h1,rfl⟩:=mY h
     have ha:args= #[s,x]:=by apply Array.ext';simpa using hax
     have hat':argTypes= #[T,T']:=by apply Array.ext';simpa using hat
     subst ha
     subst hat'
     have:=Fc (P:=P) (Tr:=type) hm hte hsl h1 (ev s) (ev x)
     refine ko ?_ this hn
     simp [execOp,resolve,invoke,builtin]
    ·cases h
   ·cases h
  ·split at h
   ·rename_i s x T T' hax hat
    obtain ⟨e,h1,rfl⟩:=mY h
    have ha:args= #[s,x]:=by apply Array.ext';simpa using hax
    have hat':argTypes= #[T,T']:=by apply Array.ext';simpa using hat
    subst ha
    subst hat'
    have:=Nr (P:=P) (Tr:=type) (T':=T') hm hte h1 (ev s) (ev x)
    refine ko ?_ this hn
    simp [execOp,resolve,invoke,builtin]
   ·cases h
  ·split at h
   ·rename_i x y hax
    split at h
    ·rename_i p q hp hq
     obtain ⟨z,h1,rfl⟩:=bp h
     cases h1
     have ha:args= #[x,y]:=by apply Array.ext';simpa using hax
     subst ha
     have e1:=ev x
     have e2:=ev y
     rw [hp] at e1
     rw [hq] at e2
     simp only [SV.rel] at e1 e2
     refine di (s:=Builtin.max_ argTypes type #[a.eval x,a.eval y]) hm ?_ ?_ hn
     ·simp [execOp,resolve,invoke,builtin]
     ·refine cf ?_ ?_
      ·simp [Builtin.max_,e1.1,e2.1,Builtin.max2]
      ·split
       ·exact e2.2
       ·exact e1.2
    ·cases h
   ·cases h
  ·cases h
end
end Sx
end Go.Proofs.YtohjofabochgfaaGreat

namespace Go.Proofs.YtohjofabochgfaaGreat
namespace Sx
open Go
section
variable {P:Program} {te:TE} {Φ:Env}
structure Hx (R₀:Ctx) (K:SE->St->Prop) (Q:Exit->Act->World->Prop):Prop where
 normal:∀ R st a w,R₀.Ext R->rk R st a w->K .normal st->Q .normal a w
 ret:∀ R st a w,R₀.Ext R->rk R st a w->K .ret st->Q .ret a w
 exit:∀ R st a w id,R₀.Ext R->rk R st a w->K (.exit id) st->Q (.exit id) a w
 pan:∀ R st a w sv v,R₀.Ext R->rk R st a w->SV.rel R sv v->K (.pan sv) st->Q (.panic [{v,recovered:=false}]) a w
theorem rk.put {R R':Ctx} {st:St} {a:Act} {w w':World} {e:Eff} {v:Value} (h:rk R st a w) (ha:eD R R' w' e.upd) (hv:SV.rel R' e.v v) (dst:Option Tmp):rk R' (st.put dst e) (a.put dst v) w':=by
 refine ⟨?_,ha.mem,?_,?_⟩
 ·rw [ha.hp,h.hp];rfl
 ·have:=SV.e9 ha.ext _ _ h.tm
  cases dst with
  |none=>exact this
  |some d=>
   simp only [St.put,Aa,Act.put,Array.toList_setIfInBounds]
   exact SV.U0 this d hv
 ·cases dst<;>exact h.defers
theorem rk.undef {R:Ctx} {st:St} {a:Act} {w:World} (h:rk R st a w) (dst:Option Tmp):rk R (st.put dst ⟨.undef,[]⟩) (a.put dst Go.undef) w:=
 h.put (eD.nothing h.mem) (by simp only [SV.rel]) dst
theorem rk.apt {R R':Ctx} {st:St} {a:Act} {w w':World} {u:List (Nat×Ch)} (h:rk R st a w) (ha:eD R R' w' u):rk R' ⟨st.tm,fG st.hp u⟩ a w':=
 ⟨by rw [ha.hp,h.hp],ha.mem,SV.e9 ha.ext _ _ h.tm,h.defers⟩
theorem rg {R:Ctx} {st:St} {a:Act} {w:World} (h:rk R st a w) {ops:Array Oper} {o:Oper} {b:Bool} (hg:guarded ops.toList st.tm o=some b):Region.wanted o (yielded ops a.tmps)=b:=by
 unfold guarded at hg
 unfold Region.wanted
 split at hg
 ·rename_i hn
  rw [hn]
  exact Option.some.inj hg
 ·rename_i j want hj
  rw [hj]
  simp only
  split at hg
  ·rename_i d hd
   have hd':(ops[j]?).bind (·.dst)=some d:=by simpa using hd
   have hl:=SV.aP h.tm
   simp only [Array.length_toList] at hl
   have get:st.tm.getD d .bB≠ .bB->∃ hlt:d<a.tmps.size,SV.rel R (st.tm.getD d .bB) a.tmps[d]:=λhne=>by
    by_cases ht:d<st.tm.length
    ·have ht':d<a.tmps.size:=Nat.lt_of_lt_of_eq ht hl.symm
     refine ⟨ht',?_⟩
     have:=SV.kr h.tm d ht (by simpa using ht')
     simpa [List.getD_eq_getElem?_getD,List.getElem?_eq_getElem ht] using this
    ·exact absurd (by simp [List.getD_eq_getElem?_getD,List.getElem?_eq_none (Nat.le_of_not_lt ht)]) hne
   split at hg
   ·rename_i q hq
    obtain ⟨hlt,hr⟩:=get (by rw [hq];exact λe=>by cases e)
    rw [hq] at hr
    simp only [SV.rel] at hr
    have hy:yielded ops a.tmps j=some q:=by
     unfold yielded
     rw [hd']
     simp [hlt,hr]
    rw [hy,<-Option.some.inj hg]
    rfl
   ·rename_i hq
    obtain ⟨hlt,hr⟩:=get (by rw [hq];exact λe=>by cases e)
    rw [hq] at hr
    simp only [SV.rel] at hr
    have hy:yielded ops a.tmps j=none:=by
     unfold yielded
     rw [hd']
     simp [hlt,hr,Go.undef]
    rw [hy,<-Option.some.inj hg]
    rfl
   ·cases hg
  ·cases hg
theorem mn (hte:kN P te) (hΦ:aW P Φ) {R₀:Ctx} {ops:Array Oper} {K:SE->St->Prop} {Q:Exit->Act->World->Prop} (hK:Hx R₀ K Q):
 ∀ (l:List Oper) (R:Ctx) (st:St) (a:Act) (w:World),R₀.Ext R->rk R st a w->nD te Φ ops.toList K l st->wpList P ops Q l a w
 | [],R,st,a,w,hx,hst,h=>hK.normal R st a w hx hst h
 |o::r,R,st,a,w,hx,hst,h=>by
  simp only [nD] at h
  split at h
  ·exact h.elim
  ·rename_i b hb
   have hw:=rg hst hb
   simp only [wpList,hw]
   cases b
   ·simp only [Bool.false_eq_true,if_false]
    exact mn hte hΦ hK r R _ _ w hx (hst.undef o.dst) h
   ·simp only [if_true]
    refine .inl ?_
    obtain ⟨out,h1,h2⟩:=OT.Sz h
    refine GU hte hΦ hst h1 ?_
    cases out with
    |ret e=>exact λR' w' v ha hv=>mn hte hΦ hK r R' _ _ w' (hx.trans ha.ext) (hst.put ha hv o.dst) h2
    |pan sv u=>exact λR' w' v ha hv=>hK.pan R' _ a w' sv v (hx.trans ha.ext) (hst.apt ha) hv h2
def Kq (P:Program) (R₀:Ctx) (b:Code) (l:St->(SE->St->Prop)->Prop):Prop:=
 ∀ (R:Ctx) (st:St) (a:Act) (w:World) (K:SE->St->Prop) (Q:Exit->Act->World->Prop),R₀.Ext R->rk R st a w->l st K->Hx R₀ K Q->b.wp P Q a w
def blocks:Code->List (Nat×Code)
 |.seq a b=>blocks a++blocks b
 |.cond _ a b=>blocks a++blocks b
 |.block id c=>(id,c)::blocks c
 |.loop c=>blocks c
 |.scope c=>blocks c
 |_=> []
def DJ (P:Program) (R₀:Ctx) (Λ:Lam) (c:Code):Prop:=∀ p ∈ blocks c,∀ l,Λ p.1=some l->Kq P R₀ (.block p.1 p.2) l
def bc (P:Program) (te:TE) (Φ:Env):Prop:=∀ (R₀:Ctx) (id:Nat) (ops:Array Oper) (K:SE->St->Prop) (Q:Exit->Act->World->Prop) (R:Ctx) (st:St) (a:Act) (w:World),Hx R₀ K Q->R₀.Ext R->rk R st a w->
 fa Φ ops (nx ops)=true->eV te Φ ops.toList (nx ops) (YT te Φ ops (nx ops) st) K st 0 ops.toList []->(Code.region id ops true).wp P Q a w
theorem ago {Λ:Lam} {n:Nat} {c:Code} {st:St} {K:SE->St->Prop}:wps te Φ Λ (n+1) c st K=(match c with
 |.skip=>K .normal st
 |.region _ ops draw=>cond draw (cond (fa Φ ops (nx ops)) (eV te Φ ops.toList (nx ops) (YT te Φ ops (nx ops) st) K st 0 ops.toList []) False) (nD te Φ ops.toList K ops.toList st)
 |.seq a b=>wps te Φ Λ n a st λe st'=>match e with
  |.normal=>wps te Φ Λ n b st' K
  |e=>K e st'
 |.cond c a b=>match st.eval c with
  |.bool t=>cond t (wps te Φ Λ n a st K) (wps te Φ Λ n b st K)
  |.aku=>(wps te Φ Λ n a st K)/\(wps te Φ Λ n b st K)
  |_=>False
 |.block id body=>match Λ id with
  |some l=>l st K
  |none=>wps te Φ Λ n body st λe st'=>match e with
   |.exit j=>cond (j==id) (K .normal st') (K (.exit j) st')
   |e=>K e st'
 |.loop body=>wps te Φ Λ n body st λe st'=>match e with
  |.normal=>wps te Φ Λ n (.loop body) st' K
  |e=>K e st'
 |.exit id=>K (.exit id) st
 |.ret=>K .ret st
 |_=>False):=by
 cases c<;>try rfl
 case region id ops draw=>
  simp only
  rw [<-GB,<-Rh]
  rfl
 case block id body=>
  simp only
  have:∀ (e:SE) (st':St),(match e with
   |.exit j=>ifB (Nat.beq j id) (K .normal st') (K (.exit j) st')
   |e=>K e st')=(match e with
   |.exit j=>cond (j==id) (K .normal st') (K (.exit j) st')
   |e=>K e st'):=λe st'=>by
   cases e<;>try rfl
   rename_i j
   have hb:Nat.beq j id=(j==id):=by
    rw [Bool.eq_iff_iff,beq_iff_eq]
    exact ⟨Nat.eq_of_beq_eq_true,λe=>by rw [e];exact Nat.beq_refl id⟩
   simp only [hb,V7]
  show (match Λ id with
   |some l=>l st K
   |none=>wps te Φ Λ n body st λe st'=>match e with
    |.exit j=>ifB (Nat.beq j id) (K .normal st') (K (.exit j) st')
    |e=>K e st')=_
  simp only [this]
def Xd (P:Program) (c:Code) (Q:Exit->Act->World->Prop) (a:Act) (w:World):Prop:=
 ∀ (b:Frame) (k:List Item) (cs:List Frame),∃ e a' w',Q e a' w'/\Arrives P (lone (b.at a (.code c:: .inLoop c::k)) cs w) b k cs e a' w'
theorem yI {c:Code} {Q:Exit->Act->World->Prop} {a:Act} {w:World} (h:Xd P c Q a w):(Code.loop c).wp P Q a w:=
 λb k cs=>let ⟨e,a',w',hq,harr⟩:=h b k cs;⟨e,a',w',hq,.of_steps (.one step_loop) harr⟩
theorem Cu {c:Code} {Q:Exit->Act->World->Prop} {a:Act} {w:World} (h:c.wp P (λe a' w'=>match e with|.normal=>Xd P c Q a' w'|e=>Q e a' w') a w):Xd P c Q a w:=by
 intro b k cs
 obtain ⟨e,a₁,w₁,hq,harr⟩:=h b (.inLoop c::k) cs
 cases e with
 |normal=>
  obtain ⟨e₂,a₂,w₂,hq₂,harr₂⟩:=hq b k cs
  exact ⟨e₂,a₂,w₂,hq₂,.of_steps (Steps.trans harr (.one step_inLoop)) harr₂⟩
 |exit id=>exact ⟨_,a₁,w₁,hq,.pass (x:=.inLoop c) rfl (λ_ _=>.inl (by simp)) harr⟩
 |goto l=>exact ⟨_,a₁,w₁,hq,.pass (x:=.inLoop c) rfl (λ_ _=>.inl (by simp)) harr⟩
 |ret=>exact ⟨_,a₁,w₁,hq,.pass (x:=.inLoop c) rfl (λ_ _=>.inl (by simp)) harr⟩
 |panic ch=>exact ⟨_,a₁,w₁,hq,.pass (x:=.inLoop c) rfl (λ_ _=>.inl (by simp)) harr⟩
 |outgrown=>exact ⟨_,a₁,w₁,hq,.pass (x:=.inLoop c) rfl (λ_ _=>.inl (by simp)) harr⟩
def Shown (P:Program) (c:Code) (Q:Exit->Act->World->Prop) (a:Act) (w:World):Prop:=
 match c with
 |.loop body=>Xd P body Q a w
 |c=>c.wp P Q a w
theorem Shown.wp {c:Code} {Q:Exit->Act->World->Prop} {a:Act} {w:World} (h:Shown P c Q a w):c.wp P Q a w:=by
 cases c<;>first|exact h|exact yI h
theorem fo (hte:kN P te) (hΦ:aW P Φ) (hany:bc P te Φ) {R₀:Ctx} {Λ:Lam}:∀ (n:Nat) (c:Code) (R:Ctx) (st:St) (a:Act) (w:World) (K:SE->St->Prop) (Q:Exit->Act->World->Prop),DJ P R₀ Λ c->
 R₀.Ext R->rk R st a w->wps te Φ Λ n c st K->Hx R₀ K Q->Shown P c Q a w
 |0,c,R,st,a,w,K,Q,_,_,_,h,_=>h.elim
 |n+1,c,R,st,a,w,K,Q,hΛ,hx,hst,h,hK=>by
  rw [ago] at h
  cases c<;>simp only at h<;>try (exact h.elim)
  case skip=>exact wp_skip (hK.normal R st a w hx hst h)
  case region id ops draw=>
   cases draw
   ·exact wp_region_list (mn hte hΦ hK _ R st a w hx hst h)
   ·cases hr:fa Φ ops (nx ops)
    ·rw [hr] at h;exact h.elim
    ·rw [hr] at h
     exact hany R₀ id ops K Q R st a w hK hx hst hr h
  case seq x y=>
   refine wp_seq (fo hte hΦ hany n x R st a w _ _ (λp hp=>hΛ p (by simp [blocks,hp])) hx hst h ⟨?_,?_,?_,?_⟩).wp
   ·exact λR' st' a' w' hx' hst' hk=>(fo hte hΦ hany n y R' st' a' w' K Q (λp hp=>hΛ p (by simp [blocks,hp])) hx' hst' hk hK).wp
   ·exact λR' st' a' w' hx' hst' hk=>hK.ret R' st' a' w' hx' hst' hk
   ·exact λR' st' a' w' id hx' hst' hk=>hK.exit R' st' a' w' id hx' hst' hk
   ·exact λR' st' a' w' sv v hx' hst' hv hk=>hK.pan R' st' a' w' sv v hx' hst' hv hk
  case cond c x y=>
   split at h
   ·rename_i t ht
    have hc:=qA hst c
    rw [ht] at hc
    simp only [SV.rel] at hc
    refine wp_cond hc ?_
    cases t
    ·exact (fo hte hΦ hany n y R st a w K Q (λp hp=>hΛ p (by simp [blocks,hp])) hx hst h hK).wp
    ·exact (fo hte hΦ hany n x R st a w K Q (λp hp=>hΛ p (by simp [blocks,hp])) hx hst h hK).wp
   ·rename_i ht
    have hc:=qA hst c
    rw [ht] at hc
    simp only [SV.rel] at hc
    obtain ⟨t,hc⟩:=hc
    refine wp_cond hc ?_
    cases t
    ·exact (fo hte hΦ hany n y R st a w K Q (λp hp=>hΛ p (by simp [blocks,hp])) hx hst h.2 hK).wp
    ·exact (fo hte hΦ hany n x R st a w K Q (λp hp=>hΛ p (by simp [blocks,hp])) hx hst h.1 hK).wp
   ·exact h.elim
  case block id body=>
   split at h
   ·rename_i l hl
    exact hΛ (id,body) (by simp [blocks]) l hl R st a w K Q hx hst h hK
   ·refine wp_block (fo hte hΦ hany n body R st a w _ _ (λp hp=>hΛ p (by simp [blocks,hp])) hx hst h ⟨?_,?_,?_,?_⟩).wp
    ·exact λR' st' a' w' hx' hst' hk=>hK.normal R' st' a' w' hx' hst' hk
    ·exact λR' st' a' w' hx' hst' hk=>hK.ret R' st' a' w' hx' hst' hk
    ·intro R' st' a' w' j hx' hst' hk
     simp only [Exit.inBlock]
     by_cases e:j=id
     ·subst e
      simp only [BEq.rfl,cond_true] at hk
      simp only [if_true]
      exact hK.normal R' st' a' w' hx' hst' hk
     ·have:(j==id)=false:=by simpa using e
      simp only [this,cond_false] at hk
      simp only [e,if_false]
      exact hK.exit R' st' a' w' j hx' hst' hk
    ·exact λR' st' a' w' sv v hx' hst' hv hk=>hK.pan R' st' a' w' sv v hx' hst' hv hk
  case loop body=>
   refine Cu (fo hte hΦ hany n body R st a w _ _ (λp hp=>hΛ p (by simp [blocks,hp])) hx hst h ⟨?_,?_,?_,?_⟩).wp
   ·exact λR' st' a' w' hx' hst' hk=>fo hte hΦ hany n (.loop body) R' st' a' w' K Q hΛ hx' hst' hk hK
   ·exact λR' st' a' w' hx' hst' hk=>hK.ret R' st' a' w' hx' hst' hk
   ·exact λR' st' a' w' id hx' hst' hk=>hK.exit R' st' a' w' id hx' hst' hk
   ·exact λR' st' a' w' sv v hx' hst' hv hk=>hK.pan R' st' a' w' sv v hx' hst' hv hk
  case exit id=>exact wp_exit (hK.exit R st a w id hx hst h)
  case ret=>exact wp_ret (hK.ret R st a w hx hst h)
theorem Kv (hte:kN P te) (hΦ:aW P Φ) (hany:bc P te Φ) {R₀:Ctx} {Λ:Lam} {n:Nat} {c:Code} {R:Ctx} {st:St} {a:Act} {w:World} {K:SE->St->Prop} {Q:Exit->Act->World->Prop} (hΛ:DJ P R₀ Λ c)
 (hx:R₀.Ext R) (hst:rk R st a w) (h:wps te Φ Λ n c st K) (hK:Hx R₀ K Q):c.wp P Q a w:=(fo hte hΦ hany n c R st a w K Q hΛ hx hst h hK).wp
end
end Sx
end Go.Proofs.YtohjofabochgfaaGreat

namespace Go.Proofs.YtohjofabochgfaaGreat
namespace Sx
open Go
section
variable {P:Program} {te:TE} {Φ:Env}
theorem aew {R:Ctx} {st:St} {a:Act} {w:World} (h:rk R st a w) (t:Nat):SV.rel R (st.tm.getD t .bB) (a.tmps.getD t Go.undef):=qA h (.tmp t)
def UY (tmps:Array Value):ResultVar->Sem Value
 |.tmp t=>pure (tmps.getD t Go.undef)
 |.cell b t=>do loadVar t (<-asAddr (tmps.getD b Go.undef))
theorem RX (ad:Addr):asAddr (.pointer (some ad))=pure ad:=rfl
theorem jv (hte:kN P te) {R:Ctx} {st:St} {a:Act} {w:World} (h:rk R st a w):∀ (rs:List ResultVar) (K:List SV->Prop),nL te st rs K->
 ∃ l vs,K l/\SV.bM R l vs/\(rs.mapM (UY a.tmps)).run P w=.ok vs w
 | [],K,hk=>⟨[],[],hk,pH,rfl⟩
 |.tmp t::r,K,hk=>by
  obtain ⟨l,vs,h1,h2,h3⟩:=jv hte h r _ hk
  refine ⟨_,a.tmps.getD t Go.undef::vs,h1,?_,?_⟩
  ·simp only [SV.bM];exact ⟨_,_,rfl,aew h t,h2⟩
  ·simp only [List.mapM_cons,UY,Sem.run_bind,Sem.run_pure,Result.andThen_ok,h3]
 |.cell b T::r,K,hk=>by
  simp only [nL] at hk
  split at hk
  ·rename_i ti hT
   obtain ⟨cs,h0,h1⟩:=OT.Sz hk
   obtain ⟨l,vs,h1,h2,h3⟩:=jv hte h r _ h1
   rw [<-h.hp] at h0
   obtain ⟨ad,hv,v,g1,g2⟩:=uB (P:=P) h.mem hte hT (aew h b) h0
   refine ⟨_,v::vs,h1,?_,?_⟩
   ·simp only [SV.bM];exact ⟨_,_,rfl,g2,h2⟩
   ·simp only [List.mapM_cons,UY,Sem.run_bind,hv,RX,Sem.run_pure,Result.andThen_ok,g1,h3]
  ·exact hk.elim
theorem ra (hte:kN P te) {R:Ctx} {st:St} {a:Act} {w:World} (h:rk R st a w) {fn:Func} {K:SV->Prop} (hk:UX te fn st K):
 ∃ x v,K x/\SV.rel R x v/\(results fn a.tmps).run P w=.ok v w:=by
 obtain ⟨l,vs,h1,h2,h3⟩:=jv hte h _ _ hk
 have hrun:(results fn a.tmps).run P w=.ok (if h:vs.toArray.size=1 then vs.toArray[0] else .tuple vs.toArray) w:=by
  have hfun:results fn a.tmps=(do
   let vs <-fn.results.mapM (UY a.tmps)
   pure (if h:vs.size=1 then vs[0] else .tuple vs)):=by
   unfold results
   congr 1
  rw [hfun,Sem.run_bind,Array.mapM_eq_mapM_toList,Sem.run_map,h3]
  rfl
 refine ⟨_,_,h1,?_,hrun⟩
 have hl:=SV.aP h2
 cases l with
 |nil=>
  simp only [SV.bM] at h2
  subst h2
  simp only [oneOf,SV.rel]
  exact ⟨[],by simp,pH⟩
 |cons x l=>
  cases l with
  |nil=>
   obtain ⟨v,rfl,hv⟩:=cm h2
   simpa [oneOf] using hv
  |cons y l=>
   have hne:¬vs.toArray.size=1:=by simp at hl⊢;omega
   rw [dif_neg hne]
   simp only [oneOf,SV.rel]
   exact ⟨vs,rfl,h2⟩
def aqR (R:Ctx) (K Kp:SV->Hp->Prop) (en:Ending) (w':World):Prop:=
 (∃ x v R',en=.returned v/\R.Ext R'/\dg R' w'/\SV.rel R' x v/\K x R'.hp)\/(∃ x v R',en=.panicked [{v,recovered:=false}]/\R.Ext R'/\dg R' w'/\SV.rel R' x v/\Kp x R'.hp)
theorem aaw (hte:kN P te) (hΦ:aW P Φ) (hany:bc P te Φ) {f:FuncId} {fn:Func} {c:Code} (hf:P.funcs[f]? =some fn) (hb:fn.body=some c) {R:Ctx} {Λ:Lam} (hΛ:DJ P R Λ c) {w:World} {n:Nat}
 {args:List SV} {vs:List Value} {K Kp:SV->Hp->Prop} (hm:dg R w) (ha:SV.bM R args vs) (h:wpf te Φ Λ n fn args R.hp K Kp):Calls P f vs.toArray w (aqR R K Kp):=by
 unfold wpf at h
 rw [hb] at h
 simp only at h
 refine calls_of_wp hf hb (Kv (R₀:=R) (R:=R) hte hΦ hany hΛ (Ctx.Ext.refl R) ⟨rfl,hm,?_,rfl⟩ h ⟨?_,?_,?_,?_⟩)
 ·have hl:=SV.aP ha
  simp only [Array.toList_append,List.toList_toArray,Array.toList_replicate,List.size_toArray,hl]
  refine SV.cD ha (SV.wj (by simp) λi h1 h2=> ?_)
  simp [SV.rel]
 ·intro R' st a w' hx hst hk
  obtain ⟨x,v,h1,h2,h3⟩:=ra hte hst hk
  refine ⟨hst.defers,v,h3,.inl ⟨x,v,R',rfl,hx,hst.mem,h2,?_⟩⟩
  rw [hst.hp];exact h1
 ·intro R' st a w' hx hst hk
  obtain ⟨x,v,h1,h2,h3⟩:=ra hte hst hk
  refine ⟨hst.defers,v,h3,.inl ⟨x,v,R',rfl,hx,hst.mem,h2,?_⟩⟩
  rw [hst.hp];exact h1
 ·intro R' st a w' id hx hst hk
  exact hk.elim
 ·intro R' st a w' sv v hx hst hv hk
  refine ⟨hst.defers,.inr ⟨sv,v,R',rfl,hx,hst.mem,hv,?_⟩⟩
  rw [hst.hp];exact hk
end
end Sx
end Go.Proofs.YtohjofabochgfaaGreat

namespace Go.Proofs.YtohjofabochgfaaGreat
namespace Sx
open Go
def ATy:List (Bool×Ty)->Type
 | []=>Unit
 |(_,t)::r=>t.T×ATy r
def adx (hp:Hp):(t:Ty)->List SV->Option t.T
 |.bool,cs=>adz cs
 |.u64,cs=>apR cs
 |.u8,cs=>pU8 cs
 |.int,cs=>apU cs
 |.str,cs=>apS cs
 |.elem,cs=>ady cs
 |.prod a b,cs=>oj (adx hp a (cs.take a.size)) (adx hp b (cs.drop a.size))
 |.arr n t,cs=>if cs.length=n*t.size then (List.range n).mapM λi=>adx hp t ((cs.drop (i*t.size)).take t.size) else none
 |.list t,cs=>if 0<t.size then akY (rj t hp) cs else none
def aqk (hp:Hp) (b:Bool) (t:Ty) (x:SV):Option t.T:=
 match b,x with
 |true,.agg l=>adx hp t l
 |true,_=>none
 |false,x=>adx hp t [x]
def aex (hp:Hp):(as:List (Bool×Ty))->List SV->Option (ATy as)
 | [],[]=>some ()
 |(b,t)::r,x::l=>oj (aqk hp b t x) (aex hp r l)
 |_,_=>none
def inj (b:Bool) (t:Ty) (x:t.T):SV:=nB b (unpack t x)
def ajO:(as:List (Bool×Ty))->ATy as->List SV
 | [],_=> []
 |(b,t)::r,x=>inj b t x.1::ajO r x.2
def Ctx.all (R:Ctx) (w:World):Ctx:=⟨λb=>w.heap[b]?,⟨λ_=>none,R.U.env⟩,λ_=>none,λ_=>none⟩
section
variable {P:Program} {R:Ctx} {w:World}
def Ty.plain:Ty->Bool
 |.list _=>false
 |.prod a b=>a.plain&&b.plain
 |.arr _ t=>t.plain
 |_=>true
def SV.flat:SV->Bool
 |.bool _|.u64 _|.u8 _|.int _|.str _=>true
 |_=>false
theorem Wr {R R':Ctx}:∀ {x:SV} {v:Value},x.flat=true->SV.rel R x v->SV.rel R' x v:=by
 intro x v hf h
 cases x<;>first|(cases hf;done)|(simpa only [SV.rel] using h)
theorem M3 {R R':Ctx}:∀ {l:List SV} {vs:List Value},l.all SV.flat=true->SV.bM R l vs->SV.bM R' l vs
 | [],vs,_,h=>by simpa only [SV.bM] using h
 |x::l,vs,hf,h=>by
  simp only [List.all_cons,Bool.and_eq_true] at hf
  simp only [SV.bM] at h⊢
  obtain ⟨v,r,h1,h2,h3⟩:=h
  exact ⟨v,r,h1,Wr hf.1 h2,M3 hf.2 h3⟩
theorem jp:∀ (t:Ty) (_:t.plain=true) (x:t.T),(unpack t x).all SV.flat=true
 |.bool,_,_=>rfl
 |.u64,_,_=>rfl
 |.u8,_,_=>rfl
 |.int,_,_=>rfl
 |.str,_,_=>rfl
 |.elem,_,_=>rfl
 |.prod a b,hp,x=>by
  simp only [Ty.plain,Bool.and_eq_true] at hp
  simp only [unpack,List.all_append,jp a hp.1,jp b hp.2,Bool.and_self]
 |.arr n t,hp,x=>by
  simp only [unpack,List.all_flatMap,List.all_eq_true]
  intro i _
  simpa [List.all_eq_true] using jp t hp _
structure Xc where
 as:List (Bool×Ty)
 rs:List (Bool×Ty)
 pre:ATy as->Bool
 F:ATy as->ATy rs
def Xc.aI (S:Xc):cN:=⟨false,λ_ args hp=>match aex hp S.as args with
 |some x=>.guard (S.pre x) (.ok (.ret ⟨oneOf (ajO S.rs (S.F x)),[]⟩))
 |none=>.fail⟩
def Ctx.behind (R R₁:Ctx) (w:World):Ctx:= {R with F:=λb=>if b<w.heap.size then R.F b else R₁.F b}
end
end Sx
end Go.Proofs.YtohjofabochgfaaGreat

namespace Go.Proofs.YtohjofabochgfaaGreat
namespace Sx
open Go
def je (d n:Nat):Prop:=n/4096=d+1
structure Z8 (d:Nat) (hp hp':Hp):Prop where
 j2:∀ c ch,hp c=some ch->hp' c=some ch
 free:∀ n,je d n->hp n=none->hp' n=none
theorem tD {c e n:Nat} {hp:Hp} (h:fp hp c e=some n):∃ b,eC hp c e=some b:=by
 unfold fp at h
 cases hq:eC hp c e with
 |none=>rw [hq] at h;cases h
 |some b=>exact ⟨b,rfl⟩
theorem kV {c e n:Nat} {hp:Hp} (h:dS hp c e=some n):∃ b,eC hp c e=some b:=by
 unfold dS at h
 cases hq:eC hp c e with
 |none=>rw [hq] at h;cases h
 |some b=>exact ⟨b,rfl⟩
section
variable {d:Nat} {hp hp':Hp} (hg:Z8 d hp hp')
include hg
theorem cL {c e:Nat} {b:Chunk} (h:eC hp c e=some b):eC hp' c e=some b:=by
 have:=hg.j2 _ _ (cE h)
 simp [eC,this]
theorem oH:∀ (n k:Nat),n+k<=4000->dM hp' d n k=dM hp d n k
 |0,k,_=>rfl
 |n+1,k,hk=>by
  simp only [dM]
  cases h:hp ((d+1)*4096+k) with
  |none=>
   have:hp' ((d+1)*4096+k)=none:=hg.free _ (by unfold je;omega) h
   rw [this]
  |some ch=>
   rw [hg.j2 _ _ h]
   exact oH n (k+1) (by omega)
theorem hZ:fresh hp' d=fresh hp d:=oH hg 4000 0 (by omega)
theorem KW {c e n:Nat} (h:fp hp c e=some n):fp hp' c e=some n:=by
 unfold fp at h⊢
 cases hq:eC hp c e with
 |none=>rw [hq] at h;cases h
 |some b=>rw [cL hg hq];rw [hq] at h;exact h
theorem tB {c e n:Nat} (h:dS hp c e=some n):dS hp' c e=some n:=by
 unfold dS at h⊢
 cases hq:eC hp c e with
 |none=>rw [hq] at h;cases h
 |some b=>rw [cL hg hq];rw [hq] at h;exact h
theorem RV {t:Ty} {x:SV} {ys:List t.T} (h:RW t hp x=some ys):RW t hp' x=some ys:=by
 cases x<;>simp only [RW] at h⊢ <;>try (first|exact h|(cases h;done))
 case own c e=>
  cases hc:hp c with
  |none=>rw [hc] at h;cases h
  |some ch=>rw [hg.j2 _ _ hc];rw [hc] at h;exact h
theorem N7 {t:Ty} {x:SV} {ys:List t.T} (h:rj t hp x=some ys):rj t hp' x=some ys:=by
 cases x<;>simp only [rj] at h⊢ <;>try (first|exact h|(cases h;done))
 case own c e=>
  cases hc:hp c with
  |none=>rw [hc] at h;cases h
  |some ch=>rw [hg.j2 _ _ hc];rw [hc] at h;exact h
 case part c e off len=>
  cases hc:hp c with
  |none=>rw [hc] at h;cases h
  |some ch=>rw [hg.j2 _ _ hc];rw [hc] at h;exact h
 case clip c e=>
  cases hc:hp c with
  |none=>rw [hc] at h;cases h
  |some ch=>rw [hg.j2 _ _ hc];rw [hc] at h;exact h
theorem ji:∀ {t:Ty} {cs:List SV} {x:t.T},pack hp t cs=some x->pack hp' t cs=some x
 |.bool,_,_,h=>h
 |.u64,_,_,h=>h
 |.u8,_,_,h=>h
 |.int,_,_,h=>h
 |.str,_,_,h=>h
 |.elem,_,_,h=>h
 |.prod a b,cs,x,h=>by
  obtain ⟨h1,h2⟩:=bx h
  simp only [pack,ji h1,ji h2,oj]
 |.arr n t,cs,x,h=>by
  simp only [pack] at h⊢
  split at h
  ·rename_i hl
   rw [if_pos hl]
   exact jj (λ_ _=>ji) h
  ·cases h
 |.list t,cs,x,h=>by
  obtain ⟨y,rfl,hy⟩:=lE h
  simp only [pack,akY]
  exact RV hg hy
theorem Cx {n:Nat} {x:SV} {cs:List SV} (h:(loadCells hp n x).run=some cs):(loadCells hp' n x).run=some cs:=by
 unfold loadCells at h⊢
 split at h
 ·rename_i c e i off
  cases hq:eC hp c e with
  |none=>rw [hq] at h;cases h
  |some b=>rw [cL hg hq];rw [hq] at h;exact h
 ·exact h
 ·exact h
 ·cases h
theorem Fb {te:TE} {T:TypeId} {x z:SV} (h:(qH te hp T x).run=some z):(qH te hp' T x).run=some z:=by
 unfold qH at h⊢
 split at h
 ·split at h
  ·cases h
  ·split at h
   ·cases h
   ·rename_i hn
    rw [if_neg hn]
    split at h
    ·split at h
     ·rename_i hrs
      rw [if_pos (tB hg hrs)]
      split at h
      ·rename_i m hm
       rw [KW hg hm]
       exact h
      ·cases h
     ·cases h
    ·split at h
     ·rename_i hrs
      rw [if_pos (tB hg hrs)]
      exact h
     ·cases h
    ·exact h
    ·cases h
 ·cases h
theorem tx {t:Ty} {cs:List SV}:∀ {m j i:Nat} {xs ys:List t.T},nH t hp cs m j i xs=some ys->nH t hp' cs m j i xs=some ys
 |0,_,_,_,_,h=>h
 |m+1,j,i,xs,ys,h=>by
  simp only [nH] at h⊢
  split at h
  ·rename_i x hx
   rw [ji hg hx]
   exact tx h
  ·cases h
theorem zX {cs:List SV} {x:SV} {u:List (Nat×Ch)} (h:(storeCells hp cs x).run=some u):(storeCells hp' cs x).run=some u:=by
 unfold storeCells at h⊢
 split at h
 ·rename_i c e i off
  cases hq:eC hp c e with
  |none=>rw [hq] at h;cases h
  |some b=>
   rw [cL hg hq]
   rw [hq] at h
   cases b with
   |frz t xs=>cases h
   |cells vs=>exact h
   |row t xs=>
    simp only at h⊢
    split at h
    ·rename_i h1
     rw [if_pos h1]
     obtain ⟨h2,h3⟩:=OT.aD h
     rw [h2]
     split at h3
     ·rename_i y hy
      rw [ji hg hy]
      exact h3
     ·cases h3
    ·rename_i h1
     rw [if_neg h1]
     split at h
     ·rename_i h4
      rw [if_pos h4]
      obtain ⟨h2,h3⟩:=OT.aD h
      rw [h2]
      split at h3
      ·rename_i ys hy
       rw [tx hg hy]
       exact h3
      ·cases h3
     ·cases h
 ·cases h
theorem fI {c e:Nat} {b:Chunk} (h:eC hp c e=some b):dS hp' c e=dS hp c e:=by
 unfold dS
 rw [cL hg h,h]
theorem eJ {c e:Nat} {b:Chunk} (h:eC hp c e=some b):fp hp' c e=fp hp c e:=by
 unfold fp
 rw [cL hg h,h]
theorem CC {te:TE} {T:TypeId} {x z:SV} {k:Int} (h:(indexAddr te hp T x k).run=some z):(indexAddr te hp' T x k).run=some z:=by
 unfold indexAddr at h⊢
 split at h
 ·cases h
 ·split at h
  ·split at h
   ·cases h
   ·split at h
    ·rename_i ei _ c ep i off
     cases hq:eC hp c ep with
     |none=>
      have:dS hp c ep=none:=by unfold dS;rw [hq]
      rw [this,hq] at h
      simp at h
      cases h
     |some b=>
      rw [fI hg hq,cL hg hq]
      rw [hq] at h
      exact h
    ·exact h
    ·cases h
  ·split at h
   ·cases h
   ·split at h
    ·split at h
     ·rename_i n hn
      obtain ⟨b,hb⟩:=tD hn
      rw [eJ hg hb,hn,fI hg hb]
      exact h
     ·cases h
    ·split at h
     ·rename_i n hn
      obtain ⟨b,hb⟩:=tD hn
      rw [eJ hg hb,hn,fI hg hb]
      exact h
     ·cases h
    ·split at h
     ·rename_i hs
      obtain ⟨b,hb⟩:=kV hs
      rw [fI hg hb,if_pos hs]
      exact h
     ·cases h
    ·exact h
    ·cases h
  ·cases h
end
end Sx
end Go.Proofs.YtohjofabochgfaaGreat

namespace Go.Proofs.YtohjofabochgfaaGreat
namespace Sx
open Go
theorem ju {hp:Hp} {c e:Nat} (h:eC hp c e=none):fp hp c e=none:=by unfold fp;rw [h]
section
variable {d:Nat} {hp hp':Hp} (hg:Z8 d hp hp')
include hg
theorem tq {size c ep off len:Nat} {lo hi:Option SV} {z:SV} (h:(rD hp size c ep off len lo hi).run=some z):(rD hp' size c ep off len lo hi).run=some z:=by
 unfold rD at h⊢
 split at h
 ·rename_i hs
  obtain ⟨b,hb⟩:=kV hs
  rw [fI hg hb,if_pos hs]
  exact h
 ·cases h
theorem HO {te:TE} {T:TypeId} {x z:SV} {lo hi mx:Option SV} (h:(wc te hp T x lo hi mx).run=some z):(wc te hp' T x lo hi mx).run=some z:=by
 unfold wc at h⊢
 split at h
 ·cases h
 ·split at h
  ·split at h
   ·rename_i ei c ep i off _
    split at h
    ·rename_i hc
     obtain ⟨b,hb⟩:=kV hc.2.2
     rw [fI hg hb,if_pos hc,eJ hg hb]
     exact h
    ·cases h
   ·cases h
  ·split at h
   ·cases h
   ·rename_i ei _
    split at h
    ·rename_i hn
     rw [if_pos hn]
     cases x<;>first|exact h|(cases h;done)|skip
     case own c ep|clip c ep|part c ep _ _=>
      cases hq:eC hp c ep with
      |none=>simp only [ju hq] at h;cases h
      |some b=>simp only [eJ hg hq];exact h
    ·rename_i hn
     rw [if_neg hn]
     cases mx with
     |some m=>cases x<;>first|exact h|(cases h;done)
     |none=>
      cases x<;>first|exact h|(cases h;done)|skip
      case own c ep=>
       cases hq:eC hp c ep with
       |none=>simp only [ju hq] at h;cases h
       |some b=>
        simp only [eJ hg hq]
        simp only at h
        split at h
        ·exact tq hg h
        ·cases h
      case part c ep off len=>exact tq hg h
  ·exact h
  ·cases h
theorem QV {te:TE} {T:TypeId} {x z:SV} (h:(YS te hp T x).run=some z):(YS te hp' T x).run=some z:=by
 unfold YS at h⊢
 split at h
 ·cases h
 ·rename_i ti hT
  cases hd:ti.desc<;>rw [hd] at h<;>cases x<;>first|exact h|(cases h;done)|skip
  case slice.own _ c ep=>
   simp only at h⊢
   cases hq:eC hp c ep with
   |none=>simp only [ju hq] at h;cases h
   |some b=>simp only [eJ hg hq];exact h
  case slice.clip _ c ep=>
   simp only at h⊢
   cases hq:eC hp c ep with
   |none=>simp only [ju hq] at h;cases h
   |some b=>simp only [eJ hg hq];exact h
  case slice.part _ c ep off len=>
   simp only at h⊢
   cases hq:eC hp c ep with
   |none=>simp only [ju hq] at h;cases h
   |some b=>simp only [eJ hg hq];exact h
omit hg in
theorem oG:∀ (n k:Nat),n+k<=4000->je d (dM hp d n k)
 |0,k,h=>by unfold je;simp only [dM];omega
 |n+1,k,h=>by
  simp only [dM]
  split
  ·unfold je;omega
  ·exact oG n (k+1) (by omega)
omit hg in
theorem CK (d:Nat) (hp:Hp):je d (fresh hp d):=oG 4000 0 (by omega)
theorem dt (h:¬(hp (fresh hp d)).isSome=true):¬(hp' (fresh hp d)).isSome=true:=by
 rw [hg.free _ (CK d hp) (lR h)]
 simp
theorem Gz {t:Ty} {x:SV} {ys:List t.T}:(match x with
 |.str b=>bQ t .u8 b
 |_=>rj t hp x)=some ys->(match x with
 |.str b=>bQ t .u8 b
 |_=>rj t hp' x)=some ys:=λh=>by
 cases x<;>first|exact h|exact N7 hg h
theorem Fe {te:TE} {T:TypeId} {s x:SV} {e:Eff} (h:(qI te hp d T s x).run=some e):(qI te hp' d T s x).run=some e:=by
 unfold qI at h⊢
 split at h
 ·split at h
  ·rename_i size bytes _ _ t hte
   split at h
   ·cases h
   ·rename_i hb
    rw [if_neg hb]
    split at h
    ·rename_i ys hys
     have key:=Gz hg hys
     split
     case h_2 hno=>exact absurd (hno.symm.trans key) (by simp)
     rename_i ys' hys'
     have:ys'=ys:=Option.some.inj (hys'.symm.trans key)
     subst this
     cases s<;>first|(cases h;done)|skip
     case own c ep=>
      simp only at h⊢
      cases hq:eC hp c ep with
      |none=>rw [hq] at h;cases h
      |some b=>rw [cL hg hq];rw [hq] at h;exact h
     case emp=>
      simp only at h⊢
      split at h
      ·cases h
      ·rename_i hf
       rw [hZ hg,if_neg (dt hg hf)]
       exact h
     case clip c ep=>
      simp only at h⊢
      cases hq:eC hp c ep with
      |none=>rw [hq] at h;cases h
      |some b=>
       rw [cL hg hq];rw [hq] at h
       cases b<;>first|(cases h;done)|skip
       case row t' xs=>
        simp only at h⊢
        split at h
        ·split at h
         ·cases h
         ·rename_i hf
          rw [hZ hg,if_neg (dt hg hf)]
          exact h
        ·cases h
    ·cases h
  ·cases h
 ·cases h
theorem Ns {te:TE} {T:TypeId} {x y:SV} {e:Eff} (h:(GW te hp T x y).run=some e):(GW te hp' T x y).run=some e:=by
 unfold GW at h⊢
 split at h
 ·split at h
  ·split at h
   ·cases h
   ·rename_i hb
    rw [if_neg hb]
    split at h
    ·rename_i ys hys
     have key:=Gz hg hys
     split
     case h_2 hno=>exact absurd (hno.symm.trans key) (by simp)
     rename_i ys' hys'
     have:ys'=ys:=Option.some.inj (hys'.symm.trans key)
     subst this
     cases x<;>first|(cases h;done)|skip
     case own c ep=>
      simp only at h⊢
      cases hq:eC hp c ep with
      |none=>rw [hq] at h;cases h
      |some b=>rw [cL hg hq];rw [hq] at h;exact h
     case part c ep off len=>
      simp only at h⊢
      cases hq:eC hp c ep with
      |none=>rw [hq] at h;cases h
      |some b=>rw [cL hg hq];rw [hq] at h;exact h
    ·cases h
  ·cases h
 ·cases h
theorem yX {te:TE} {T:TypeId} {cs:List SV} {e:Eff} (h:(newVar te hp d T cs).run=some e):(newVar te hp' d T cs).run=some e:=by
 unfold newVar at h⊢
 split at h
 ·cases h
 ·split at h
  ·cases h
  ·rename_i hl
   rw [if_neg hl]
   simp only at h⊢
   split at h
   ·cases h
   ·rename_i hf
    rw [hZ hg,if_neg (dt hg hf)]
    exact h
theorem Ai {te:TE} {T:TypeId} {len:Nat} {ps:List (Nat×SV)} {e:Eff} (h:(buildSlice te hp d T len ps).run=some e):(buildSlice te hp' d T len ps).run=some e:=by
 unfold buildSlice at h⊢
 split at h
 ·split at h
  ·simp only at h⊢
   split at h
   ·cases h
   ·rename_i hf
    rw [hZ hg]
    rw [if_neg (by rintro (h1|h1);exact dt hg (λh2=>hf (.inl h2)) h1;exact hf (.inr h1))]
    split at h
    ·split at h
     ·rename_i xs hxs
      rw [jj (λ_ _=>ji hg) hxs]
      exact h
     ·cases h
    ·cases h
  ·cases h
 ·cases h
theorem Cq {te:TE} {T:TypeId} {l c:Int} {e:Eff} (h:(makeSlice te hp d T l c).run=some e):(makeSlice te hp' d T l c).run=some e:=by
 unfold makeSlice at h⊢
 split at h
 ·split at h
  ·simp only at h⊢
   split at h
   ·cases h
   ·rename_i hf
    rw [hZ hg]
    rw [if_neg (by rintro (h1|h1);exact dt hg (λh2=>hf (.inl h2)) h1;exact hf (.inr h1))]
    exact h
  ·cases h
 ·cases h
end
end Sx
end Go.Proofs.YtohjofabochgfaaGreat

namespace Go.Proofs.YtohjofabochgfaaGreat
namespace Sx
open Go
def aK (s:cN):Prop:=∀ (d:Nat) (args:List SV) (hp hp':Hp) (out:Out),Z8 d hp hp'->(s.f d args hp).run=some out->(s.f d args hp').run=some out
def aw (Φ:Env):Prop:=∀ f s,Φ f=some s->aK s
theorem dK {α β:Type} {f:α->β} {x y:OT α} {z:β} (hxy:∀ a,x.run=some a->y.run=some a) (h:(x.map f).run=some z):(y.map f).run=some z:=by
 obtain ⟨a,h1,rfl⟩:=OT.run_map h
 have:=hxy a h1
 clear h h1 hxy
 induction y with
 |ok b=>cases this;rfl
 |br b u v hu hv=>
  cases b
  ·exact hv this
  ·exact hu this
 |fail=>cases this
theorem Ag {te:TE} {d:Nat} {hp hp':Hp} (hg:Z8 d hp hp') {src dst:TypeId} {x:SV} {y:Nat×Nat×List UInt8} (h:ff te hp src dst x=some y):ff te hp' src dst x=some y:=by
 unfold ff at h⊢
 split at h
 ·rename_i hs
  rw [if_pos hs]
  split at h
  ·split at h
   ·split at h
    ·split at h
     ·rename_i h3
      rw [cL hg h3]
      exact h
     ·cases h
    ·cases h
   ·cases h
  ·cases h
 ·cases h
theorem ZH {te:TE} {Φ:Env} (hΦ:aw Φ) {d:Nat} {hp hp':Hp} (hg:Z8 d hp hp') {ρ:Operand->SV} {op:Op} {out:Out} (h:(GV te Φ hp d ρ op).run=some out):
 (GV te Φ hp' d ρ op).run=some out:=by
 cases op<;>simp only [GV] at h⊢ <;>try (first|exact h|(cases h;done))
 case alloc T=>
  split at h
  ·exact dK (λ_=>yX hg) h
  ·cases h
 case box T x=>
  split at h
  ·exact dK (λ_=>yX hg) h
  ·cases h
 case buildSlice T len ps=>exact dK (λ_=>Ai hg) h
 case load T a=>
  split at h
  ·exact dK (λ_ hq=>dK (λ_=>Cx hg) hq) h
  ·cases h
 case store T a x=>
  split at h
  ·split at h
   ·split at h
    ·rename_i hl
     rw [if_pos hl]
     exact dK (λ_=>zX hg) h
    ·cases h
   ·cases h
  ·cases h
 case slice T x lo hi mx=>exact dK (λ_=>HO hg) h
 case sliceToArrayPointer T x=>exact dK (λ_=>Fb hg) h
 case indexAddr T x k=>
  split at h
  ·exact dK (λ_=>CC hg) h
  ·cases h
 case convert src dst x=>
  split at h
  ·exact h
  ·split at h
   ·rename_i hs
    rw [Ag hg hs]
    exact h
   ·rename_i hs
    split
    ·rename_i c e s hs'
     obtain ⟨_,_,hx,_,_⟩:=o9 hs'
     rw [hx] at h
     unfold AH at h
     split at h<;>first|(cases h;done)|(split at h<;>first|(cases h;done)|skip)
     all_goals (rename_i he;simp_all)
    ·exact h
 case makeSlice T l c=>
  split at h
  ·exact dK (λ_=>Cq hg) h
  ·cases h
 case call c=>
  cases hc:c.callee<;>simp only [hc] at h⊢ <;>try (cases h;done)
  case value f=>
   unfold afG at h⊢
   split at h
   ·split at h
    ·rename_i s hs
     exact hΦ _ _ hs _ _ _ _ _ hg h
    ·cases h
   ·cases h
  case invoke recv name=>
   unfold JN at h⊢
   split at h
   ·split at h
    ·split at h
     ·rename_i s hs
      exact hΦ _ _ hs _ _ _ _ _ hg h
     ·cases h
    ·cases h
   ·cases h
  case builtin b=>
   cases b<;>simp only at h⊢ <;>try (cases h;done)
   case len=>
    split at h
    ·exact dK (λ_=>QV hg) h
    ·cases h
   case append=>
    split at h
    ·split at h
     ·rename_i hl
      rw [if_pos hl]
      exact dK (λ_=>Fe hg) h
     ·cases h
    ·cases h
   case copy=>
    split at h
    ·exact dK (λ_=>Ns hg) h
    ·cases h
   case max=>exact h
def J7 (d:Nat) (hp hp':Hp):Prop:=∀ n,je d n->(hp n=none ↔ hp' n=none)
theorem za {d:Nat} {hp hp':Hp} (hf:J7 d hp hp'):∀ (n k:Nat),n+k<=4000->dM hp' d n k=dM hp d n k
 |0,k,_=>rfl
 |n+1,k,hk=>by
  simp only [dM]
  have hb:je d ((d+1)*4096+k):=by unfold je;omega
  cases h:hp ((d+1)*4096+k) with
  |none=>rw [(hf _ hb).1 h]
  |some ch=>
   cases h':hp' ((d+1)*4096+k) with
   |none=>rw [(hf _ hb).2 h'] at h;cases h
   |some ch'=>exact za hf n (k+1) (by omega)
theorem Wg {d:Nat} {hp hp':Hp} (hf:J7 d hp hp'):fresh hp' d=fresh hp d:=za hf 4000 0 (by omega)
theorem MA {d:Nat} {hp hp':Hp} (hf:J7 d hp hp'):(hp' (fresh hp d)).isSome=(hp (fresh hp d)).isSome:=by
 have:=hf _ (CK d hp)
 cases h:hp (fresh hp d) with
 |none=>rw [this.1 h]
 |some ch=>
  cases h':hp' (fresh hp d) with
  |none=>rw [this.2 h'] at h;cases h
  |some ch'=>rfl
theorem afm {te:TE} {Φ:Env} {d:Nat} {hp hp':Hp} (hf:J7 d hp hp') {ρ:Operand->SV} {op:Op} (hk:dP Φ op=0):
 GV te Φ hp' d ρ op=GV te Φ hp d ρ op:=by
 cases op<;>simp only [GV]<;>(first|(exfalso;simp [dP] at hk;done)|skip)
 case convert src dst x=>
  have hne:¬Nat.beq src dst=true:=λe=>by simp [dP,e] at hk
  have:∀ hp,ff te hp src dst (ρ x)=none:=λhp=>by unfold ff;rw [if_neg hne]
  rw [this,this]
 case alloc T=>
  split
  ·congr 1
   unfold newVar
   rw [Wg hf]
   simp only [MA hf]
  ·rfl
 case makeSlice T l c=>
  split
  ·congr 1
   unfold makeSlice
   rw [Wg hf]
   simp only [MA hf]
  ·rfl
 case call c=>
  cases hc:c.callee<;>(try simp only)
  case value f=>
   exfalso
   simp only [dP,hc] at hk
   cases f<;>simp only at hk<;>first|(cases hk;done)|skip
   split at hk
   ·split at hk<;>cases hk
   ·cases hk
  case invoke recv name=>
   exfalso
   simp only [dP,hc] at hk
   cases hk
  case builtin b=>
   cases b<;>(try simp only)<;>(simp only [dP,hc] at hk;try (cases hk;done))
theorem ZI {te:TE} {Φ:Env} {d:Nat} {hp:Hp} {ρ ρ':Operand->SV} {op:Op} (h:∀ x ∈ op.operands,ρ x=ρ' x):GV te Φ hp d ρ op=GV te Φ hp d ρ' op:=by
 have pairs:∀ ps:Array (Nat×Operand),(∀ x ∈ (ps.toList.map (·.2)).toArray,ρ x=ρ' x)->(ps.toList.map λp=>(p.1,ρ p.2))=(ps.toList.map λp=>(p.1,ρ' p.2)):=λps hp=>
  List.map_congr_left λp hm=>by
   rw [hp p.2 (by simpa using ⟨p.1,by simpa using hm⟩)]
 cases op<;>simp only [Op.operands] at h<;>simp only [GV]
 case build t ps=>rw [pairs ps h]
 case buildSlice t n ps=>rw [pairs ps h]
 case makeFunc f first caps=>
  rw [List.map_congr_left (l:=first.toList) λx hx=>h x (by simp at hx;simp [hx]),List.map_congr_left (l:=caps.toList) λx hx=>h x (by simp at hx;simp [hx])]
 case call c=>
  have hargs:c.args.toList.map ρ=c.args.toList.map ρ':=List.map_congr_left λx hx=>h x (by simp at hx;simp [Call.operands,hx])
  have harr:∀ x ∈ c.args.toList,ρ x=ρ' x:=λx hx=>h x (by simp at hx;simp [Call.operands,hx])
  cases hc:c.callee<;>(try simp only)
  case value f=>
   have hf:ρ f=ρ' f:=h f (by simp [Call.operands,hc])
   rw [hargs,hf]
  case invoke recv name=>
   have hf:ρ recv=ρ' recv:=h recv (by simp [Call.operands,hc])
   rw [hargs,hf]
  case builtin b=>
   cases b<;>(try simp only)
   all_goals (
    rcases ha:c.args.toList with _|⟨x,_|⟨y,_|⟨z,r⟩⟩⟩<;>rcases hT:c.argTypes.toList with _|⟨T,_|⟨T',_|⟨T'',r'⟩⟩⟩<;>
     first
     |rfl
     |(have hx:=harr x (by rw [ha];simp);simp only [hx];done)
     |(have hx:=harr x (by rw [ha];simp);have hy:=harr y (by rw [ha];simp);simp only [hx,hy];done))
 case slice t x lo hi mx=>cases lo<;>cases hi<;>cases mx<;>simp_all
 all_goals (first|rfl|(simp_all;done))
end Sx
end Go.Proofs.YtohjofabochgfaaGreat

namespace Go.Proofs.YtohjofabochgfaaGreat
namespace Sx
open Go
def bj (u:List (Nat×Ch)):List Nat:=u.map (·.1)
theorem rR {m:Nat}:∀ (u:List (Nat×Ch)) {hp hp':Hp},hp m=hp' m->fG hp u m=fG hp' u m
 | [],_,_,h=>h
 |(c,ch)::r,hp,hp',h=>rR r (by show (if m=c then some ch else hp m)=(if m=c then some ch else hp' m);rw [h])
theorem dm {m:Nat}:∀ (u:List (Nat×Ch)) {hp:Hp},m ∉ bj u->fG hp u m=hp m
 | [],_,_=>rfl
 |(c,ch)::r,hp,h=>by
  have h1:m≠c:=λe=>h (by simp [bj,e])
  have h2:m ∉ bj r:=λe=>h (by simp only [bj,List.map_cons,List.mem_cons];exact .inr e)
  simp only [fG]
  rw [dm r h2]
  simp [h1]
theorem Vu {m:Nat}:∀ (u:List (Nat×Ch)) {hp hp':Hp},m ∈ bj u->fG hp u m=fG hp' u m
 | [],_,_,h=>by simp [bj] at h
 |(c,ch)::r,hp,hp',h=>by
  by_cases h2:m ∈ bj r
  ·exact Vu r h2
  ·have h1:m=c:=by
    simp only [bj,List.map_cons,List.mem_cons] at h
    exact h.resolve_right h2
   simp only [fG]
   rw [dm r h2,dm r h2]
   simp [h1]
theorem FX {m:Nat}:∀ (u:List (Nat×Ch)) {hp:Hp},hp m≠none->fG hp u m≠none
 | [],_,h=>h
 |(c,ch)::r,hp,h=>FX r (by
  show (if m=c then some ch else hp m)≠none
  split
  ·simp
  ·exact h)
theorem ai4 {s:St} {d d':Option Tmp} {e e':Eff} (hd:∀ t,d=some t->d'≠some t) (hn:∀ m,m ∈ bj e.upd->m ∉ bj e'.upd):(s.put d e).put d' e'=(s.put d' e').put d e:=by
 unfold St.put
 congr 1
 ·cases d with
  |none=>rfl
  |some t=>
   cases d' with
   |none=>rfl
   |some t'=>
    simp only [Aa]
    exact List.set_comm _ _ (λh=>hd t rfl (by rw [h]))
 ·funext m
  simp only
  by_cases h':m ∈ bj e'.upd
  ·have h:m ∉ bj e.upd:=λh=>hn m h h'
   rw [Vu e'.upd (hp':=s.hp) h',dm e.upd h]
  ·rw [dm e'.upd h']
   exact rR _ (dm e'.upd h').symm
theorem qv (st:St) (D:Nat->Bool):∀ (F:kl),(bi st D F).tm.length=st.tm.length
 | []=>rfl
 |x::r=>by
  simp only [bi]
  cases D x.1
  ·exact qv st D r
  ·simp only [cond_true,St.put]
   unfold Aa
   split<;>simp [qv st D r]
theorem kI {st:St} {D D':Nat->Bool}:∀ {F:kl},(∀ x ∈ F,D x.1=D' x.1)->bi st D F=bi st D' F
 | [],_=>rfl
 |x::r,h=>by
  simp only [bi]
  rw [h x (by simp),kI (F:=r) λy hy=>h y (by simp [hy])]
theorem CT {st:St} {D D':Nat->Bool} {m:Nat}:∀ {F:kl},(∀ x ∈ F,D' x.1=true->D x.1=true)->(∀ x ∈ F,D x.1=true->D' x.1=false->m ∉ bj x.2.2.upd)->
 (bi st D F).hp m=(bi st D' F).hp m
 | [],_,_=>rfl
 |x::r,h1,h2=>by
  have ih:=CT (st:=st) (D:=D) (D':=D') (m:=m) (F:=r) (λy hy=>h1 y (by simp [hy])) (λy hy=>h2 y (by simp [hy]))
  simp only [bi]
  cases hd':D' x.1
  ·cases hd:D x.1
   ·exact ih
   ·simp only [cond_true,cond_false,St.put]
    rw [dm _ (h2 x (by simp) hd hd')]
    exact ih
  ·rw [h1 x (by simp) hd']
   simp only [cond_true,St.put]
   exact rR _ ih
theorem BH {st:St} {dst:Option Tmp} {v:SV} {t:Nat} (h:dst≠some t):(Aa st dst v).getD t .bB=st.tm.getD t .bB:=by
 cases dst with
 |none=>rfl
 |some d=>
  have:d≠t:=λe=>h (by rw [e])
  simp [Aa,List.getD_eq_getElem?_getD,List.getElem?_set_ne this]
theorem X8 {st st':St} {dst:Option Tmp} {v:SV} {t:Nat} (hl:st.tm.length=st'.tm.length) (h:st.tm.getD t .bB=st'.tm.getD t .bB):(Aa st dst v).getD t .bB=(Aa st' dst v).getD t .bB:=by
 cases dst with
 |none=>exact h
 |some d=>
  by_cases e:d=t
  ·subst e
   simp only [Aa,List.getD_eq_getElem?_getD,List.getElem?_set,if_true,hl]
  ·rw [BH (by simpa using e),BH (by simpa using e)]
   exact h
theorem MX {st:St} {D D':Nat->Bool} {t:Nat}:∀ {F:kl},(∀ x ∈ F,D' x.1=true->D x.1=true)->(∀ x ∈ F,D x.1=true->D' x.1=false->x.2.1.dst≠some t)->
 (bi st D F).tm.getD t .bB=(bi st D' F).tm.getD t .bB
 | [],_,_=>rfl
 |x::r,h1,h2=>by
  have ih:=MX (st:=st) (D:=D) (D':=D') (t:=t) (F:=r) (λy hy=>h1 y (by simp [hy])) (λy hy=>h2 y (by simp [hy]))
  simp only [bi]
  cases hd':D' x.1
  ·cases hd:D x.1
   ·exact ih
   ·simp only [cond_true,cond_false,St.put]
    rw [BH (h2 x (by simp) hd hd')]
    exact ih
  ·rw [h1 x (by simp) hd']
   simp only [cond_true,St.put]
   exact X8 (by rw [qv,qv]) ih
theorem uM {st:St} {D:Nat->Bool} {i:Nat} {o:Oper} {e:Eff}:∀ {F:kl},(i,o,e) ∈ F->(∀ x ∈ F,x.1=i->x=(i,o,e))->F.Pairwise (λx y=>y.1<x.1)->D i=false->
 (∀ x ∈ F,D x.1=true->i<x.1->(∀ t,o.dst=some t->x.2.1.dst≠some t)/\∀ m,m ∈ bj e.upd->m ∉ bj x.2.2.upd)->
 bi st (λk=>D k||Nat.beq k i) F=(bi st D F).put o.dst e
 | [],hm,_,_,_,_=>by cases hm
 |x::r,hm,hu,hp,hD,hc=>by
  have hp':=List.pairwise_cons.1 hp
  simp only [bi]
  by_cases hx:x.1=i
  ·have:=hu x (by simp) hx
   subst this
   simp only [hD,Bool.false_or,Nat.beq_refl,cond_true,cond_false]
   congr 1
   exact kI λy hy=>by
    have:y.1≠i:=Nat.ne_of_lt (hp'.1 y hy)
    simp [this]
  ·have hmr:(i,o,e) ∈ r:=by
    rcases List.mem_cons.1 hm with h|h
    ·exact absurd (by rw [<-h]) hx
    ·exact h
   have hlt:i<x.1:=hp'.1 _ hmr
   have ih:=uM (st:=st) (F:=r) hmr (λy hy=>hu y (by simp [hy])) hp'.2 hD (λy hy=>hc y (by simp [hy]))
   have hb:Nat.beq x.1 i=false:=by
    cases hq:Nat.beq x.1 i
    ·rfl
    ·exact absurd (Nat.eq_of_beq_eq_true hq) hx
   simp only [hb,Bool.or_false]
   cases hd:D x.1
   ·exact ih
   ·simp only [cond_true]
    obtain ⟨c1,c2⟩:=hc x (by simp) hd hlt
    rw [ih,ai4 c1 c2]
end Sx
end Go.Proofs.YtohjofabochgfaaGreat

namespace Go.Proofs.YtohjofabochgfaaGreat
namespace Sx
open Go
section
variable {te:TE} {Φ:Env} {ops:Array Oper} {bs:Array Nat} {H:Hid} {st:St}
structure alv (te:TE) (Φ:Env) (ops:Array Oper) (bs:Array Nat) (H:Hid) (st:St) (r:kl) (i:Nat) (o:Oper) (e:Eff):Prop where
 run:∃ b,guarded ops.toList (bi st (cK bs i) r).tm o=some b/\
  (b=true->(GV te Φ (ak7 (hid H i) (bi st (cK bs i) r).hp) (dU i o) (bi st (cK bs i) r).eval o.op).run=some (.ret e)/\MJ H i o e.upd=true)/\(b=false->e=⟨.undef,[]⟩)
 upd:OP Φ bs ops.toList st i o r e.upd=true
def Good (te:TE) (Φ:Env) (ops:Array Oper) (bs:Array Nat) (H:Hid) (st:St):kl->Prop
 | []=>True
 |x::r=>x.1=r.length/\ops[r.length]? =some x.2.1/\alv te Φ ops bs H st r x.1 x.2.1 x.2.2/\Good te Φ ops bs H st r
theorem AX {K:SE->St->Prop}:∀ (l:List Oper) (done:kl),Good te Φ ops bs H st done->(∀ k,l[k]? =ops[done.length+k]?)->eV te Φ ops.toList bs H K st done.length l done->
 ∃ F,Good te Φ ops bs H st F/\F.length=done.length+l.length/\K .normal (bi st (λ_=>true) F)
 | [],done,hg,_,h=>⟨done,hg,rfl,h⟩
 |o::r,done,hg,hl,h=>by
  have ho:ops[done.length]? =some o:=by have:=hl 0;simpa using this.symm
  have hl':∀ k,r[k]? =ops[done.length+1+k]? :=λk=>by
   have:=hl (k+1)
   rw [List.getElem?_cons_succ] at this
   rw [this]
   congr 1
   omega
  simp only [eV] at h
  split at h
  ·exact h.elim
  ·rename_i b hb
   cases b
   ·simp only [cond_false] at h
    obtain ⟨F,h1,h2,h3⟩:=AX r ((done.length,o,⟨.undef,[]⟩)::done) ⟨rfl,ho,⟨⟨_,hb,(λh=>by cases h),λ_=>rfl⟩,rfl⟩,hg⟩ hl' h
    exact ⟨F,h1,by rw [h2];simp only [List.length_cons];omega,h3⟩
   ·simp only [cond_true] at h
    obtain ⟨out,h1,h2⟩:=OT.Sz h
    cases out with
    |pan v u=>exact h2.elim
    |ret e=>
     simp only at h2
     cases hu:OP Φ bs ops.toList st done.length o done e.upd
     ·rw [hu] at h2;exact h2.elim
     ·cases hv:MJ H done.length o e.upd
      ·rw [hu,hv] at h2;exact h2.elim
      rw [hu,hv] at h2
      obtain ⟨F,h4,h5,h6⟩:=AX r ((done.length,o,e)::done) ⟨rfl,ho,⟨⟨_,hb,(λ_=>⟨h1,hv⟩),λh=>by cases h⟩,hu⟩,hg⟩ hl' h2
      exact ⟨F,h4,by rw [h5];simp only [List.length_cons];omega,h6⟩
theorem Good.mem:∀ {F:kl},Good te Φ ops bs H st F->∀ x ∈ F,x.1<F.length/\ops[x.1]? =some x.2.1
 | [],_,x,hx=>by cases hx
 |y::r,hg,x,hx=>by
  rcases List.mem_cons.1 hx with h|h
  ·subst h
   exact ⟨by rw [hg.1];simp,by rw [hg.1];exact hg.2.1⟩
  ·obtain ⟨h1,h2⟩:=Good.mem hg.2.2.2 x h
   exact ⟨by simp only [List.length_cons];omega,h2⟩
theorem Good.pairwise:∀ {F:kl},Good te Φ ops bs H st F->F.Pairwise (λx y=>y.1<x.1)
 | [],_=>List.Pairwise.nil
 |y::r,hg=>List.pairwise_cons.2 ⟨λx hx=>by rw [hg.1];exact (Good.mem hg.2.2.2 x hx).1,Good.pairwise hg.2.2.2⟩
theorem Good.arP:∀ {F:kl},Good te Φ ops bs H st F->∀ x ∈ F,∀ y ∈ F,x.1=y.1->x=y
 | [],_,x,hx,_,_,_=>by cases hx
 |z::r,hg,x,hx,y,hy,he=>by
  rcases List.mem_cons.1 hx with h|h<;>rcases List.mem_cons.1 hy with h'|h'
  ·rw [h,h']
  ·have:=(Good.mem hg.2.2.2 y h').1
   rw [h,hg.1] at he
   omega
  ·have:=(Good.mem hg.2.2.2 x h).1
   rw [h',hg.1] at he
   omega
  ·exact Good.arP hg.2.2.2 x h y h' he
theorem Good.at:∀ {F:kl},Good te Φ ops bs H st F->∀ i,i<F.length->∃ o e r,(i,o,e) ∈ F/\(∀ y ∈ r,y ∈ F)/\r.length=i/\(∀ D:Nat->Bool,(∀ k,i<=k->D k=false)->bi st D F=bi st D r)/\Good te Φ ops bs H st r/\alv te Φ ops bs H st r i o e
 | [],_,i,h=>by simp at h
 |y::r,hg,i,h=>by
  by_cases hi:i=r.length
  ·subst hi
   have h1:y.1=r.length:=hg.1
   refine ⟨y.2.1,y.2.2,r,?_,λz hz=>by simp [hz],rfl,λD hD=> ?_,hg.2.2.2,?_⟩
   ·rw [<-h1];simp
   ·simp only [bi]
    rw [hD y.1 (by rw [h1];omega)]
    rfl
   ·have:=hg.2.2.1
    rw [h1] at this
    exact this
  ·have hlt:i<r.length:=by simp only [List.length_cons] at h;omega
   obtain ⟨o,e,r',h1,h2,h3,h4,h5,h6⟩:=Good.at hg.2.2.2 i hlt
   refine ⟨o,e,r',by simp [h1],λz hz=>by simp [h2 z hz],h3,λD hD=> ?_,h5,h6⟩
   simp only [bi]
   rw [hD y.1 (by rw [hg.1];omega)]
   exact h4 D hD
theorem V6 {d n:Nat} (h:MG d n=true):je d n:=Nat.eq_of_beq_eq_true h
theorem Good.names:∀ {F:kl},Good te Φ ops bs H st F->∀ x ∈ F,∀ m ∈ bj x.2.2.upd,(je (dU x.1 x.2.1) m/\st.hp m=none)\/
 (dP Φ x.2.1.op=2/\(st.hp m≠none\/∃ y ∈ F,cK bs x.1 y.1=true/\je (dU y.1 y.2.1) m/\y.2.2.upd≠ []))
 | [],_,x,hx,_,_=>by cases hx
 |z::r,hg,x,hx,m,hm=>by
  rcases List.mem_cons.1 hx with h|h
  ·subst h
   obtain ⟨c,hc,rfl⟩:=List.mem_map.1 hm
   have hu:=hg.2.2.1.upd
   unfold OP at hu
   have hne:x.2.2.upd.isEmpty=false:=by
    cases hq:x.2.2.upd with
    |nil=>rw [hq] at hc;cases hc
    |cons=>rfl
   rw [hne,Bool.false_or,Bool.and_eq_true,List.all_eq_true,List.all_eq_true] at hu
   have h1:=hu.2 c hc
   simp only [Bool.or_eq_true,Bool.and_eq_true,Option.isNone_iff_eq_none,List.any_eq_true,Bool.not_eq_true'] at h1
   rcases h1 with ⟨h1,h2⟩|⟨h1,h2⟩
   ·exact .inl ⟨V6 h1,h2⟩
   ·refine .inr ⟨Nat.eq_of_beq_eq_true h1,?_⟩
    rcases h2 with h2|⟨y,hy,⟨h3,h4⟩,h5⟩
    ·exact .inl λhq=>by rw [hq] at h2;cases h2
    ·exact .inr ⟨y,by simp [hy],h3,V6 h4,λhq=>by rw [hq] at h5;cases h5⟩
  ·rcases Good.names hg.2.2.2 x h m hm with h1|⟨h1,h2|⟨y,hy,h3⟩⟩
   ·exact .inl h1
   ·exact .inr ⟨h1,.inl h2⟩
   ·exact .inr ⟨h1,.inr ⟨y,by simp [hy],h3⟩⟩
theorem iA {o:Oper} {i:Nat} (h:ops[i]? =some o):ops.getD i default=o:=by
 rw [Array.getD_eq_getD_getElem?,h];rfl
theorem Ac {o:Oper} {i:Nat} (h:ops[i]? =some o):ops.toList.getD i default=o:=by
 rw [List.getD_eq_getElem?_getD,Array.getElem?_toList,h];rfl
theorem Good.own:∀ {F:kl},Good te Φ ops bs H st F->∀ x ∈ F,x.2.2.upd≠ []->∀ (k:Nat) (o:Oper),ops[k]? =some o->k≠x.1->dU k o≠dU x.1 x.2.1
 | [],_,x,hx,_,_,_,_,_=>by cases hx
 |z::r,hg,x,hx,hne,k,o,hk,hkx=>by
  rcases List.mem_cons.1 hx with h|h
  ·subst h
   have hu:=hg.2.2.1.upd
   unfold OP at hu
   have hne:x.2.2.upd.isEmpty=false:=by
    cases hq:x.2.2.upd with
    |nil=>exact absurd hq hne
    |cons=>rfl
   rw [hne,Bool.false_or,Bool.and_eq_true,List.all_eq_true,List.all_eq_true] at hu
   have hlt:k<ops.size:=by
    rcases Nat.lt_or_ge k ops.size with h'|h'
    ·exact h'
    ·rw [Array.getElem?_eq_none h'] at hk;cases hk
   have h1:=hu.1 k (by simpa using hlt)
   rw [Ac hk] at h1
   simp only [Bool.or_eq_true,Bool.not_eq_true'] at h1
   rcases h1 with h1|h1
   ·exact absurd (Nat.eq_of_beq_eq_true h1) hkx
   ·intro he
    rw [he,Nat.beq_refl] at h1
    cases h1
  ·exact Good.own hg.2.2.2 x h hne k o hk hkx
def OI (bs:Array Nat) (n:Nat) (D:Nat->Bool):Prop:=∀ k,k<n->D k=true->∀ l,cK bs k l=true->D l=true
theorem Good.origin {F:kl} (hF:Good te Φ ops bs H st F) {D:Nat->Bool} (hD:OI bs F.length D) {m:Nat} (hm:st.hp m=none):∀ (L:kl),(∀ x ∈ L,x ∈ F)->(bi st D L).hp m≠none->
 ∃ y ∈ F,D y.1=true/\je (dU y.1 y.2.1) m/\y.2.2.upd≠ []
 | [],_,h=>absurd hm h
 |x::r,hL,h=>by
  have ih:=Good.origin hF hD hm r (λy hy=>hL y (by simp [hy]))
  simp only [bi] at h
  cases hd:D x.1
  ·rw [hd] at h;exact ih h
  ·rw [hd] at h
   simp only [cond_true,St.put] at h
   by_cases hn:m ∈ bj x.2.2.upd
   ·have hx:=hL x (by simp)
    rcases hF.names x hx m hn with ⟨h1,_⟩|⟨_,h1|⟨y,hy,h2,h3,h4⟩⟩
    ·exact ⟨x,hx,hd,h1,λhq=>by rw [hq] at hn;simp [bj] at hn⟩
    ·exact absurd hm h1
    ·exact ⟨y,hy,hD x.1 (hF.mem x hx).1 hd _ h2,h3,h4⟩
   ·rw [dm _ hn] at h
    exact ih h
theorem su {D:Nat->Bool} {m:Nat} (hm:st.hp m≠none):∀ (L:kl),(bi st D L).hp m≠none
 | []=>hm
 |x::r=>by
  have ih:=su (D:=D) hm r
  simp only [bi]
  cases D x.1
  ·exact ih
  ·exact FX _ ih
end
end Sx
end Go.Proofs.YtohjofabochgfaaGreat

namespace Go.Proofs.YtohjofabochgfaaGreat
namespace Sx
open Go
theorem cJ {a b:Nat} (h:Nat.blt a b=true):a<b:=Nat.le_of_ble_eq_true h
theorem NN {a b:Nat} (h:a<b):Nat.blt a b=true:=Nat.ble_eq_true_of_le h
section
variable {te:TE} {Φ:Env} {ops:Array Oper} {bs:Array Nat} {H:Hid} {st:St}
structure Hy (Φ:Env) (ops:Array Oper) (i j:Nat) (x y:Oper):Prop where
 xy:∀ d,x.dst=some d->d ∉ y.looksAt ops
 dd:∀ d,x.dst=some d->y.dst≠some d
 yx:∀ d,y.dst=some d->d ∉ x.looksAt ops
 slot:dU i x≠dU j y
theorem Hy.symm {i j:Nat} {x y:Oper} (h:Hy Φ ops i j x y):Hy Φ ops j i y x:=
 ⟨h.yx,λd hd he=>h.dd d he hd,h.xy,λe=>h.slot e.symm⟩
theorem anM {a b:Nat} (h:Nat.beq a b=false):a≠b:=λe=>by
 subst e
 rw [Nat.beq_refl] at h
 cases h
theorem NT (hok:fa Φ ops bs=true) {i j:Nat} {x y:Oper} (hx:ops[i]? =some x) (hy:ops[j]? =some y) (hij:i<j) (h:cK bs j i=false):Hy Φ ops i j x y:=by
 have hj:j<ops.size:=by
  rcases Nat.lt_or_ge j ops.size with h'|h'
  ·exact h'
  ·rw [Array.getElem?_eq_none h'] at hy;cases hy
 unfold fa at hok
 rw [List.all_eq_true] at hok
 have h1:=hok j (by simpa using hj)
 rw [Bool.and_eq_true,List.all_eq_true] at h1
 have h2:=h1.2 i (by simpa using hij)
 unfold akW at h2
 simp only [iA hx,iA hy,h,Bool.false_or,Bool.and_eq_true,Bool.not_eq_true'] at h2
 obtain ⟨h3,h4⟩:=h2
 obtain ⟨a1,a2,a3⟩:=Oper.apart_spec h3
 exact ⟨a1,a2,a3,anM h4⟩
theorem WR {i j:Nat} {x y:Oper} (hx:ops[i]? =some x) (hy:ops[j]? =some y) (hij:i<j) (h:cK bs j i=false) (hk:(dP Φ x.op=2/\dP Φ y.op≠0)\/(dP Φ y.op=2/\dP Φ x.op≠0)):(i,j) ∈ o6 Φ ops bs:=by
 have hj:j<ops.size:=by
  rcases Nat.lt_or_ge j ops.size with h'|h'
  ·exact h'
  ·rw [Array.getElem?_eq_none h'] at hy;cases hy
 unfold o6
 refine List.mem_flatMap.2 ⟨j,by simpa using hj,List.mem_flatMap.2 ⟨i,by simpa using hij,?_⟩⟩
 have:afv Φ ops bs i j=true:=by
  unfold afv
  simp only [iA hx,iA hy,h,Bool.not_false,Bool.true_and,Bool.or_eq_true,Bool.and_eq_true,Bool.not_eq_true']
  have nb:∀ {n:Nat},n≠0->Nat.beq n 0=false:=λ{n} h=>by
   cases hq:Nat.beq n 0
   ·rfl
   ·exact absurd (Nat.eq_of_beq_eq_true hq) h
  exact hk.imp (λ⟨a,b⟩=>⟨by rw [a];rfl,nb b⟩) λ⟨a,b⟩=>⟨by rw [a];rfl,nb b⟩
 rw [this]
 exact List.mem_singleton.2 rfl
theorem ak8 (hH:H.1=o6 Φ ops bs) {i j:Nat} {x y:Oper} (hx:ops[i]? =some x) (hy:ops[j]? =some y) (hij:i≠j) (h:cK bs j i=false) (h':cK bs i j=false) (hk:(dP Φ x.op=2/\dP Φ y.op≠0)\/(dP Φ y.op=2/\dP Φ x.op≠0)):
 qs H i=true/\qs H j=true/\(∀ n ∈ H.2.getD j [],n ∈ hid H i)/\(∀ n ∈ H.2.getD i [],n ∈ hid H j):=by
 have nb:∀ {a b:Nat},a≠b->Nat.beq a b=false:=λ{a b} h=>by
  cases hq:Nat.beq a b
  ·rfl
  ·exact absurd (Nat.eq_of_beq_eq_true hq) h
 unfold qs hid
 rw [hH]
 rcases Nat.lt_or_gt_of_ne hij with hlt|hlt
 ·have hm:=WR hx hy hlt h hk
  refine ⟨List.any_eq_true.2 ⟨_,hm,by simp⟩,List.any_eq_true.2 ⟨_,hm,by simp⟩,λn hn=>List.mem_flatMap.2 ⟨_,hm,?_⟩,λn hn=>List.mem_flatMap.2 ⟨_,hm,?_⟩⟩
  ·simp only [Nat.beq_refl,cond_true]
   exact hn
  ·simp only [nb hij,Nat.beq_refl,cond_true,cond_false]
   exact hn
 ·have hm:=WR hy hx hlt h' hk.symm
  refine ⟨List.any_eq_true.2 ⟨_,hm,by simp⟩,List.any_eq_true.2 ⟨_,hm,by simp⟩,λn hn=>List.mem_flatMap.2 ⟨_,hm,?_⟩,λn hn=>List.mem_flatMap.2 ⟨_,hm,?_⟩⟩
  ·simp only [nb (Ne.symm hij),Nat.beq_refl,cond_true,cond_false]
   exact hn
  ·simp only [Nat.beq_refl,cond_true]
   exact hn
theorem aem {R:List Nat} {hp:Hp} {n:Nat} {ch:Ch} (h:ak7 R hp n=some ch):n ∉ R/\hp n=some ch:=by
 cases R with
 |nil=>exact ⟨by simp,h⟩
 |cons a r=>
  have h:cond ((a::r).any λm=>Nat.beq m n) none (hp n)=some ch:=h
  cases hq:(a::r).any λm=>Nat.beq m n
  ·rw [hq] at h
   refine ⟨λhm=> ?_,h⟩
   have:=List.any_eq_false.1 hq n hm
   rw [Nat.beq_refl] at this
   exact this rfl
  ·rw [hq] at h
   cases h
theorem V9 {R:List Nat} {hp:Hp} {n:Nat} (h:n ∉ R):ak7 R hp n=hp n:=by
 cases R with
 |nil=>rfl
 |cons a r=>
  show cond ((a::r).any λm=>Nat.beq m n) none (hp n)=hp n
  have:((a::r).any λm=>Nat.beq m n)=false:=List.any_eq_false.2 λm hm hq=>h (by rw [<-Nat.eq_of_beq_eq_true hq];exact hm)
  rw [this]
  rfl
theorem aen {i n:Nat} (h:n ∈ hid H i):qs H i=true:=by
 unfold hid at h
 obtain ⟨p,hp,h⟩:=List.mem_flatMap.1 h
 refine List.any_eq_true.2 ⟨p,hp,?_⟩
 cases h1:Nat.beq p.1 i
 ·cases h2:Nat.beq p.2 i
  ·rw [h1,h2] at h;cases h
  ·rfl
 ·rfl
theorem mT {i:Nat} {o:Oper} {u:List (Nat×Ch)} (h:MJ H i o u=true) (hc:qs H i=true):
 (∀ m ∈ bj u,m ∈ H.2.getD i []/\m ∉ hid H i)/\∀ n ∈ hid H i,¬je (dU i o) n:=by
 unfold MJ at h
 rw [hc,Bool.not_true,Bool.false_or,Bool.and_eq_true,List.all_eq_true,List.all_eq_true] at h
 refine ⟨λm hm=> ?_,λn hn hb=> ?_⟩
 ·obtain ⟨c,hc,rfl⟩:=List.mem_map.1 hm
  have h1:=h.1 c hc
  rw [Bool.and_eq_true,List.any_eq_true,Bool.not_eq_true'] at h1
  obtain ⟨⟨k,hk,he⟩,h2⟩:=h1
  refine ⟨by rw [<-Nat.eq_of_beq_eq_true he];exact hk,λhm=> ?_⟩
  have:=List.any_eq_false.1 h2 c.1 hm
  rw [Nat.beq_refl] at this
  exact this rfl
 ·have h1:=h.2 n hn
  rw [Bool.not_eq_true'] at h1
  unfold je at hb
  unfold MG at h1
  rw [hb,Nat.beq_refl] at h1
  cases h1
theorem Good.hid:∀ {F:kl},Good te Φ ops bs H st F->∀ x ∈ F,x.2.2.upd≠ []->MJ H x.1 x.2.1 x.2.2.upd=true
 | [],_,x,hx,_=>by cases hx
 |z::r,hg,x,hx,hne=>by
  rcases List.mem_cons.1 hx with h|h
  ·subst h
   obtain ⟨b,h1,h2,h3⟩:=hg.2.2.1.run
   cases b
   ·rw [h3 rfl] at hne
    exact absurd rfl hne
   ·exact (h2 rfl).2
  ·exact Good.hid hg.2.2.2 x h hne
theorem beside (hok:fa Φ ops bs=true) {i j:Nat} {x y:Oper} (hx:ops[i]? =some x) (hy:ops[j]? =some y) (hij:i≠j) (h:cK bs j i=false) (h':cK bs i j=false):Hy Φ ops i j x y:=by
 rcases Nat.lt_or_gt_of_ne hij with hlt|hlt
 ·exact NT hok hx hy hlt h
 ·exact (NT hok hy hx hlt h').symm
theorem JT (hok:fa Φ ops bs=true) {i:Nat} {o:Oper} (ho:ops[i]? =some o):
 (∀ e ∈ o.after,Region.binds .any e=true->e.on<i/\cK bs i e.on=true)/\
 ∀ k,cK bs i k=true->(∀ l,cK bs k l=true->cK bs i l=true)/\∃ e ∈ o.after,Region.binds .any e=true/\(e.on=k\/cK bs e.on k=true):=by
 have hi:i<ops.size:=by
  rcases Nat.lt_or_ge i ops.size with h'|h'
  ·exact h'
  ·rw [Array.getElem?_eq_none h'] at ho;cases ho
 unfold fa at hok
 rw [List.all_eq_true] at hok
 have h1:=hok i (by simpa using hi)
 rw [Bool.and_eq_true] at h1
 have h2:=h1.1
 unfold alr at h2
 rw [Bool.and_eq_true,iA ho,Array.all_eq_true_iff_forall_mem,List.all_eq_true] at h2
 refine ⟨λe he hb=> ?_,λk hk=> ?_⟩
 ·have h3:=h2.1 e he
  rw [hb] at h3
  simp only [Bool.not_true,Bool.false_or,Bool.and_eq_true] at h3
  exact ⟨cJ h3.1,by unfold cK;rw [h3.1,h3.2];rfl⟩
 ·unfold cK at hk
  rw [Bool.and_eq_true] at hk
  have h3:=h2.2 k (by simpa using cJ hk.1)
  rw [hk.2] at h3
  simp only [Bool.not_true,Bool.false_or,Bool.and_eq_true] at h3
  refine ⟨λl hl=> ?_,?_⟩
  ·unfold cK at hl⊢
   rw [Bool.and_eq_true] at hl⊢
   refine ⟨NN (Nat.lt_trans (cJ hl.1) (cJ hk.1)),?_⟩
   have h4:=Nat.eq_of_beq_eq_true h3.1
   have h5:=hl.2
   rw [<-h4,Nat.testBit_and,Bool.and_eq_true] at h5
   exact h5.2
  ·obtain ⟨e,he,h4⟩:=Array.any_eq_true'.1 h3.2
   rw [Bool.and_eq_true,Bool.or_eq_true] at h4
   exact ⟨e,he,h4.1,h4.2.imp Nat.eq_of_beq_eq_true id⟩
theorem ZP (hok:fa Φ ops bs=true) {n i:Nat} (hi:i<ops.size):OI bs n (cK bs i):=λk _ hk l hl=>
 ((JT hok (Array.getElem?_eq_getElem hi)).2 k hk).1 l hl
structure At (te:TE) (Φ:Env) (ops:Array Oper) (bs:Array Nat) (st:St) (F:kl) (D:Nat->Bool) (i:Nat) (o:Oper) (e:Eff):Prop where
 guard:∃ b,guarded ops.toList (bi st D F).tm o=some b/\(b=true->(GV te Φ (bi st D F).hp (dU i o) (bi st D F).eval o.op).run=some (.ret e))/\(b=false->e=⟨.undef,[]⟩)
 put:bi st (λk=>D k||Nat.beq k i) F=(bi st D F).put o.dst e
theorem Jc {tm tm':List SV} {o:Oper} (h:∀ t ∈ o.looksAt ops,tm.getD t .bB=tm'.getD t .bB):guarded ops.toList tm o=guarded ops.toList tm' o:=by
 unfold guarded
 split
 ·rfl
 ·rename_i j want hj
  have:(ops.toList[j]?).bind (·.dst)=(ops[j]?).bind (·.dst):=by simp
  rw [this]
  split
  ·rename_i d hd
   rw [h d (by simp [Oper.looksAt,hj,hd])]
  ·rfl
theorem an5 (op:Op):dP Φ op=0\/dP Φ op=1\/dP Φ op=2:=by
 unfold dP
 repeat' split
 all_goals first|(simp;done)|(rename_i s d _;cases Nat.beq s d<;>simp)
theorem arH (hm:aw Φ) (hH:H.1=o6 Φ ops bs) (hok:fa Φ ops bs=true) {F:kl} (hF:Good te Φ ops bs H st F) (hl:F.length=ops.size) {D:Nat->Bool} (hD:OI bs F.length D) {i:Nat} (hi:i<ops.size) (hDi:D i=false)
 (hpre:∀ k,cK bs i k=true->D k=true):∃ o e,ops[i]? =some o/\At te Φ ops bs st F D i o e:=by
 obtain ⟨o,e,r,hmem,hr,hrl,hback,hgr,hgo⟩:=hF.at i (by omega)
 have ho:ops[i]? =some o:=(hF.mem _ hmem).2
 refine ⟨o,e,ho,?_⟩
 --those that are done and needn't come ahead
 have side:∀ x ∈ F,D x.1=true->cK bs i x.1=false->Hy Φ ops i x.1 o x.2.1/\cK bs x.1 i=false/\x.1≠i:=λx hx hd hn=>by
  have hne:i≠x.1:=λe=>by rw [e,hd] at hDi;cases hDi
  have h2:cK bs x.1 i=false:=by
   cases hq:cK bs x.1 i
   ·rfl
   ·rw [hD x.1 (hF.mem x hx).1 hd i hq] at hDi;cases hDi
  exact ⟨beside hok ho (hF.mem x hx).2 hne h2 hn,h2,λe=>hne e.symm⟩
 have hsame:bi st (cK bs i) F=bi st (cK bs i) r:=hback _ λk hk=>by
  unfold cK
  have:Nat.blt k i=false:=by
   cases hq:Nat.blt k i
   ·rfl
   ·have:=cJ hq;omega
  rw [this];rfl
 obtain ⟨b,hb1,hb2,hb3⟩:=hgo.run
 rw [<-hsame] at hb1 hb2
 have htm:∀ t ∈ o.looksAt ops,(bi st D F).tm.getD t .bB=(bi st (cK bs i) F).tm.getD t .bB:=λt ht=>
  MX (λx _ h=>hpre _ h) λx hx hd hn he=>(side x hx hd hn).1.yx t he ht
 have hev:∀ x ∈ o.op.operands,(bi st D F).eval x=(bi st (cK bs i) F).eval x:=λx hx=>by
  cases x with
  |tmp t=>
   exact htm t (by
    unfold Oper.looksAt
    exact List.mem_append_left _ (List.mem_filterMap.2 ⟨.tmp t,by simpa using hx,rfl⟩))
  |const v=>rfl
  |global g=>rfl
  |func f=>rfl
 have hown:=hF.own _ hmem
 have hnone:∀ n,je (dU i o) n->((bi st (cK bs i) F).hp n=none ↔ (bi st D F).hp n=none):=λn hn=>by
  by_cases hs:st.hp n=none
  ·have:(bi st D F).hp n=(bi st (cK bs i) F).hp n:=CT (λx _ h=>hpre _ h) λx hx hd hp hin=>by
    obtain ⟨s1,s2,s3⟩:=side x hx hd hp
    rcases hF.names x hx n hin with ⟨h1,_⟩|⟨_,h1|⟨y,hy,h2,h3,h4⟩⟩
    ·exact s1.slot (by unfold je at hn h1;omega)
    ·exact h1 hs
    ·by_cases hyi:y.1=i
     ·rw [hyi,s2] at h2;cases h2
     ·exact hF.own y hy h4 i o ho (λe=>hyi e.symm) (by unfold je at hn h3;omega)
   rw [this]
  ·exact ⟨λh=>absurd h (su hs F),λh=>absurd h (su hs F)⟩
 refine ⟨⟨b,(Jc htm).trans hb1,λhb=> ?_,hb3⟩,?_⟩
 ·obtain ⟨h0,hh⟩:=hb2 hb
  have hfree:∀ n,je (dU i o) n->n ∉ hid H i:=λn hn hm=>(mT hh (aen hm)).2 n hm hn
  rw [ZI hev]
  rcases an5 (Φ:=Φ) o.op with hk|hk
  ·rw [afm (d:=dU i o) (hp:=ak7 (hid H i) (bi st (cK bs i) F).hp) (λn hn=>by rw [V9 (hfree n hn)];exact hnone n hn) hk]
   exact h0
  ·refine ZH hm (d:=dU i o) (hp:=ak7 (hid H i) (bi st (cK bs i) F).hp) ⟨λc ch hc=> ?_,λn hn h=>(hnone n hn).1 (by rw [V9 (hfree n hn)] at h;exact h)⟩ h0
   obtain ⟨hcn,hc⟩:=aem hc
   rw [<-hc]
   refine CT (λx _ h=>hpre _ h) λx hx hd hp hin=> ?_
   obtain ⟨s1,s2,s3⟩:=side x hx hd hp
   have hk2:dP Φ x.2.1.op≠2:=λe=>by
    have hk0:dP Φ o.op≠0:=by omega
    obtain ⟨_,q2,q3,_⟩:=ak8 hH ho (hF.mem x hx).2 (Ne.symm s3) s2 hp (.inr ⟨e,hk0⟩)
    have hne:x.2.2.upd≠ []:=λhq=>by rw [hq] at hin;simp [bj] at hin
    exact hcn (q3 c ((mT (hF.hid x hx hne) q2).1 c hin).1)
   rcases hF.names x hx c hin with ⟨h1,h2⟩|⟨h1,_⟩
   ·obtain ⟨y,hy,y1,y2,y3⟩:=hF.origin (ZP hok hi) h2 F (λ_ h=>h) (by rw [hc];simp)
    by_cases hxy:y.1=x.1
    ·rw [hxy,hp] at y1;cases y1
    ·exact hF.own y hy y3 x.1 x.2.1 (hF.mem x hx).2 (λe=>hxy e.symm) (by unfold je at h1 y2;omega)
   ·exact hk2 h1
 ·refine uM hmem (λx hx he=>hF.arP x hx _ hmem he) hF.pairwise hDi λx hx hd hlt=> ?_
  have hn:cK bs i x.1=false:=by
   unfold cK
   have:Nat.blt x.1 i=false:=by
    cases hq:Nat.blt x.1 i
    ·rfl
    ·have:=cJ hq;omega
   rw [this];rfl
  obtain ⟨s1,s2,s3⟩:=side x hx hd hn
  refine ⟨s1.dd,λm hm1 hm2=> ?_⟩
  have hne:e.upd≠ []:=λhq=>by rw [hq] at hm1;simp [bj] at hm1
  have hne':x.2.2.upd≠ []:=λhq=>by rw [hq] at hm2;simp [bj] at hm2
  have n1:=hF.names _ hmem m hm1
  have n2:=hF.names x hx m hm2
  simp only at n1
  rcases n1 with ⟨a1,a2⟩|⟨a1,a2⟩
  ·rcases n2 with ⟨b1,b2⟩|⟨b1,b2|⟨y,hy,b2,b3,b4⟩⟩
   ·exact s1.slot (by unfold je at a1 b1;omega)
   ·exact b2 a2
   ·by_cases hyi:y.1=i
    ·rw [hyi,s2] at b2;cases b2
    ·exact hF.own y hy b4 i o ho (λe=>hyi e.symm) (by unfold je at a1 b3;omega)
  ·rcases n2 with ⟨b1,b2⟩|⟨b1,_⟩
   ·rcases a2 with a2|⟨y,hy,a2,a3,a4⟩
    ·exact a2 b2
    ·by_cases hyx:y.1=x.1
     ·rw [hyx] at a2
      rw [hn] at a2;cases a2
     ·exact hF.own y hy a4 x.1 x.2.1 (hF.mem x hx).2 (λe=>hyx e.symm) (by unfold je at b1 a3;omega)
   ·obtain ⟨q1,q2,q3,_⟩:=ak8 hH ho (hF.mem x hx).2 (Ne.symm s3) s2 hn (.inl ⟨a1,by rw [b1];decide⟩)
    exact ((mT (hF.hid _ hmem hne) q1).1 m hm1).2 (q3 m ((mT (hF.hid x hx hne') q2).1 m hm2).1)
end
end Sx
end Go.Proofs.YtohjofabochgfaaGreat

namespace Go.Proofs.YtohjofabochgfaaGreat
namespace Sx
open Go
def fN (listed:Array Bool) (k:Nat):Bool:=listed.getD k false
theorem ZD {listed:Array Bool} {i:Nat} (hi:i<listed.size):fN (listed.setIfInBounds i true)=λk=>fN listed k||Nat.beq k i:=by
 funext k
 unfold fN
 by_cases h:k=i
 ·subst h
  simp [hi]
 ·have:Nat.beq k i=false:=by
   cases hq:Nat.beq k i
   ·rfl
   ·exact absurd (Nat.eq_of_beq_eq_true hq) h
  rw [this,Bool.or_false]
  simp [Array.getElem?_setIfInBounds_ne (Ne.symm h)]
theorem dg.drew {R:Ctx} {w:World} (h:dg R w) (n:Nat):dg R {w with drawn:=n}:=by
 refine ⟨h.F,h.U,λc ch hc=> ?_,h.apart,h.FU,h.env⟩
 have:=h.ch c ch hc
 unfold fg at this⊢
 exact this
section
variable {P:Program} {te:TE} {Φ:Env} {ops:Array Oper} {bs:Array Nat} {H:Hid} {st:St}
theorem Z6 (hok:fa Φ ops bs=true) {listed:Array Bool} (hs:listed.size=ops.size) (hr:Region.ready .any ops listed= []):∀ k,k<ops.size->fN listed k=true:=by
 intro k
 induction k using Nat.strongRecOn with
 |ind k ih=>
  intro hk
  cases hq:fN listed k
  ·have:k ∈ Region.ready .any ops listed:=mem_ready.2 ⟨by
    unfold fN at hq
    have hk':k<listed.size:=by omega
    simpa [hk'] using hq,ops[k],Array.getElem?_eq_getElem hk,λe he hb=>by
     have:=((JT hok (Array.getElem?_eq_getElem hk)).1 e he hb).1
     exact ih e.on this (by omega)⟩
   rw [hr] at this
   cases this
  ·rfl
theorem akv (hte:kN P te) (hΦ:aW P Φ) (hmono:aw Φ) (hH:H.1=o6 Φ ops bs) (hok:fa Φ ops bs=true) {F:kl} (hF:Good te Φ ops bs H st F) (hl:F.length=ops.size)
 {R₀:Ctx} {K:SE->St->Prop} {Q:Exit->Act->World->Prop} (hK:Hx R₀ K Q) (hend:K .normal (bi st (λ_=>true) F)):
 ∀ (fuel:Nat) (listed:Array Bool) (R:Ctx) (a:Act) (w:World),listed.size=ops.size->listed.toList.count false=fuel->OI bs F.length (fN listed)->R₀.Ext R->
  rk R (bi st (fN listed) F) a w->wpAny P .any ops Q fuel listed a w:=by
 have done:∀ (listed:Array Bool) (R:Ctx) (a:Act) (w:World),(∀ k,k<ops.size->fN listed k=true)->R₀.Ext R->rk R (bi st (fN listed) F) a w->Q .normal a w:=λlisted R a w h hx hst=>by
  rw [kI (D':=λ_=>true) λx hx=>h x.1 (by have:=(hF.mem x hx).1;omega)] at hst
  exact hK.normal R _ a w hx hst hend
 intro fuel
 induction fuel with
 |zero=>
  intro listed R a w hs hc hD hx hst
  have hall:∀ k,k<ops.size->fN listed k=true:=λk hk=>by
   have hk':k<listed.size:=by omega
   have h1:=List.count_eq_zero.1 hc
   unfold fN
   cases hq:listed[k]
   ·exact absurd (by rw [<-hq];simp) h1
   ·simp [hk',hq]
  refine ⟨?_,done listed R a w hall hx hst⟩
  cases hr:Region.ready .any ops listed with
  |nil=>rfl
  |cons i r=>
   have:i ∈ Region.ready .any ops listed:=by rw [hr];simp
   obtain ⟨h1,o,ho,h2⟩:=mem_ready.1 this
   have hi:i<ops.size:=(Array.getElem?_eq_some_iff.1 ho).1
   have:=hall i hi
   have hi':i<listed.size:=by omega
   unfold fN at this
   simp [hi'] at this h1
   rw [this] at h1
   cases h1
 |succ fuel ih=>
  intro listed R a w hs hc hD hx hst
  refine ⟨λhr=>done listed R a w (Z6 hok hs hr) hx hst,λi hi=> ?_⟩
  obtain ⟨h1,o,ho,h2⟩:=mem_ready.1 hi
  have hi':i<ops.size:=(Array.getElem?_eq_some_iff.1 ho).1
  have hil:i<listed.size:=by omega
  have hnot:listed[i]=false:=by simpa [hil] using h1
  have hDi:fN listed i=false:=by unfold fN;simp [hil,hnot]
  have hpre:∀ k,cK bs i k=true->fN listed k=true:=λk hk=>by
   obtain ⟨e,he,hb,h3|h3⟩:=((JT hok ho).2 k hk).2
   ·rw [<-h3];exact h2 e he hb
   ·have h4:=((JT hok ho).1 e he hb).1
    exact hD e.on (by omega) (h2 e he hb) k h3
  obtain ⟨o',e,ho',hat⟩:=arH hmono hH hok hF hl hD hi' hDi hpre
  rw [ho] at ho'
  cases ho'
  have hset:=ZD hil
  have hcount:(listed.setIfInBounds i true).toList.count false=fuel:=by
   rw [Array.toList_setIfInBounds,List.count_set (by simpa using hil)]
   simp [hnot,hc]
  have hclosed:OI bs F.length (fN (listed.setIfInBounds i true)):=λk hk hd l hpl=>by
   rw [hset] at hd⊢
   simp only [Bool.or_eq_true] at hd⊢
   rcases hd with hd|hd
   ·exact .inl (hD k hk hd l hpl)
   ·rw [Nat.eq_of_beq_eq_true hd] at hpl
    exact .inl (hpre l hpl)
  obtain ⟨b,g1,g2,g3⟩:=hat.guard
  have hw:=rg hst g1
  unfold wpOp
  simp only [ho,hw]
  cases b
  ·simp only [Bool.false_eq_true,if_false]
   refine ih _ R _ _ (by simpa using hs) hcount hclosed hx ?_
   rw [hset,hat.put,g3 rfl]
   exact hst.undef o.dst
  ·simp only [if_true]
   refine .inl (GU hte hΦ hst (g2 rfl) ?_)
   exact λR' w' v ha hv=>ih _ R' _ _ (by simpa using hs) hcount hclosed (hx.trans ha.ext) (by rw [hset,hat.put];exact hst.put ha hv o.dst)
theorem aO (hm:P.follows .mixedOrders=true) (hte:kN P te) (hΦ:aW P Φ) (hmono:aw Φ):bc P te Φ:=by
 intro R₀ id ops K Q R st a w hK hx hst hok h
 obtain ⟨F,h1,h2,h3⟩:=AX (te:=te) (Φ:=Φ) (ops:=ops) (bs:=nx ops) (H:=YT te Φ ops (nx ops) st) (st:=st) ops.toList [] trivial (λk=>by simp) h
 have hl:F.length=ops.size:=by simpa using h2
 refine wp_region_any hm (akv hte hΦ hmono aeo hok h1 hl hK h3 ops.size _ R a _ (by simp) (by simp) ?_ hx ?_)
 ·intro k _ hd
  unfold fN at hd
  simp [Array.getD] at hd
 ·have:bi st (fN (Array.replicate ops.size false)) F=st:=by
   rw [kI (D':=λ_=>false) λx hx=>by unfold fN;simp [Array.getD]]
   clear h h1 h2 h3 hl
   induction F with
   |nil=>rfl
   |cons y r ih=>exact ih
  rw [this]
  exact ⟨hst.hp,hst.mem.drew _,hst.tm,hst.defers⟩
end
end Sx
end Go.Proofs.YtohjofabochgfaaGreat

namespace Go.Proofs.YtohjofabochgfaaGreat
namespace Sx
open Go
def xY (ok:Nat->Bool) (t:Ty) (hp:Hp):SV->Option (List t.T)
 |.lst t' xs=>bQ t t' xs
 |.emp=>some []
 |.own c e|.clip c e=>match hp c with
  |some ⟨ep,.row t' xs⟩=>cond (Nat.beq ep e&&ok c) (bQ t t' xs) none
  |some ⟨ep,.frz t' xs⟩=>cond (Nat.beq ep e) (bQ t t' xs) none
  |_=>none
 |.part c e off len=>match hp c with
  |some ⟨ep,.row t' xs⟩=>cond (Nat.beq ep e&&ok c) ((bQ t t' xs).map λl=>(l.drop off).take len) none
  |some ⟨ep,.frz t' xs⟩=>cond (Nat.beq ep e) ((bQ t t' xs).map λl=>(l.drop off).take len) none
  |_=>none
 |_=>none
def r8 (ok:Nat->Bool) (hp:Hp):(t:Ty)->List SV->Option t.T
 |.bool,cs=>adz cs
 |.u64,cs=>apR cs
 |.u8,cs=>pU8 cs
 |.int,cs=>apU cs
 |.str,cs=>apS cs
 |.elem,cs=>ady cs
 |.prod a b,cs=>oj (r8 ok hp a (cs.take a.size)) (r8 ok hp b (cs.drop a.size))
 |.arr n t,cs=>if cs.length=n*t.size then (List.range n).mapM λi=>r8 ok hp t ((cs.drop (i*t.size)).take t.size) else none
 |.list t,cs=>if 0<t.size then akY (xY ok t hp) cs else none
section
variable {R:Ctx} {w:World} {F':Nat->Option Obj} {ok:Nat->Bool} (hm:dg R w) (hF:∀ b o,R.F b=some o->F' b=some o)
 (hok:∀ c ch L,ok c=true->R.hp c=some ch->R.σ c=some L->F' L.block=w.heap[L.block]?)
include hm hF hok
theorem zf {c e off len:Nat} {v:Value} {t:Ty} {xs:List t.T} {b:Chunk} (hc:R.hp c=some ⟨e,b⟩) (hb:(b=.row t xs/\ok c=true)\/b=.frz t xs) (h:R.part c e off len v):
 Rep F' (.list t) ((xs.drop off).take len) [v]:=by
 obtain ⟨h1,h2,ad,cap,rfl,h4,h5⟩:=Ctx.dp hc h
 have hsh:b.shape=(true,t.size,xs.length):=by rcases hb with ⟨rfl,_⟩|rfl<;>rfl
 rw [hsh] at h2 h5
 simp only at h2 h5
 have hlen:((xs.drop off).take len).length=len:=by simp;omega
 have hch:=hm.ch c _ hc
 have key:∀ (L:Loc) (arr:Array Value) (E:TypeId) (fz:Nat×Nat),R.σ c=some L->xs.length<=cw->F' L.block=some (.cells arr E fz)->arr.size=L.base+L.lim->xs.length*t.size<=L.lim->J4 R arr L.base t xs->
  Rep F' (.list t) ((xs.drop off).take len) [.slice ad len cap]:=λL arr E fz hσ hmx hbk ha hl hrow=>by
  rw [hσ] at h5
  obtain ⟨h6,h7⟩:=h5
  refine ⟨by omega,ad,cap,by rw [hlen],by omega,?_⟩
  by_cases hl0:len=0
  ·left;exact List.eq_nil_of_length_eq_zero (by omega)
  ·right
   have hle:(off+len)*t.size<=xs.length*t.size:=Nat.mul_le_mul_right _ h2
   rw [Nat.add_mul] at hle
   refine ⟨L.block,L.base+off*t.size,arr,E,fz,h7 (by omega),hbk,by rw [hlen];omega,λi hi=> ?_⟩
   rw [hlen] at hi
   have e1:((xs.drop off).take len).getD i t.d=xs.getD (off+i) t.d:=by
    simp only [List.getD_eq_getElem?_getD]
    rw [List.getElem?_take_of_lt hi,List.getElem?_drop]
   rw [e1,Nat.add_assoc,<-Nat.add_mul]
   exact bW hF _ _ _ (hrow _ (by omega))
 cases hσ:R.σ c with
 |none=>
  rw [hσ] at h5
  simp only at h5
  have:(xs.drop off).take len= []:=List.eq_nil_of_length_eq_zero (by omega)
  rw [this]
  have hl0:len=0:=by omega
  subst hl0
  exact pc t ad cap
 |some L=>
  rcases hb with ⟨rfl,hk⟩|rfl
  ·simp only [fg,hσ] at hch
   obtain ⟨_,hmx,_,_,arr,E,hbk,ha,hl,hrow⟩:=hch
   exact key L arr E _ hσ hmx (by rw [hok c _ L hk hc hσ];exact hbk) ha hl hrow
  ·simp only [fg,hσ] at hch
   obtain ⟨_,hmx,arr,E,fz,hbk,ha,hl,hrow⟩:=hch
   exact key L arr E fz hσ hmx (hF _ _ hbk) ha hl hrow
theorem m5 {c e:Nat} {t t':Ty} {xs:List t'.T} {ys:List t.T} {v:Value} {b:Chunk} (hc:R.hp c=some ⟨e,b⟩) (hb:(b=.row t' xs/\ok c=true)\/b=.frz t' xs) (hy:bQ t t' xs=some ys) (h:R.own c e v):
 Rep F' (.list t) ys [v]:=by
 obtain ⟨e,rfl⟩:=aZ hy
 subst e
 have:=zf hm hF hok hc hb (Ctx.cQ hc h)
 have hsh:b.shape=(true,t'.size,xs.length):=by rcases hb with ⟨rfl,_⟩|rfl<;>rfl
 rw [hsh] at this
 simpa using this
theorem zd {c e off len:Nat} {t t':Ty} {xs:List t'.T} {ys:List t.T} {v:Value} {b:Chunk} (hc:R.hp c=some ⟨e,b⟩) (hb:(b=.row t' xs/\ok c=true)\/b=.frz t' xs)
 (hy:(bQ t t' xs).map (λl=>(l.drop off).take len)=some ys) (h:R.part c e off len v):Rep F' (.list t) ys [v]:=by
 cases hr:bQ t t' xs with
 |none=>rw [hr] at hy;cases hy
 |some zs=>
  rw [hr] at hy
  cases hy
  obtain ⟨e,rfl⟩:=aZ hr
  subst e
  exact zf hm hF hok hc hb h
theorem NJ {t:Ty} {x:SV} {ys:List t.T} {v:Value} (h:xY ok t R.hp x=some ys) (hx:SV.rel R x v):Rep F' (.list t) ys [v]:=by
 cases x<;>simp only [xY] at h<;>try (cases h;done)
 case lst t' xs=>
  obtain ⟨e,rfl⟩:=aZ h
  subst e
  simp only [SV.rel] at hx
  exact bW hF _ _ _ hx
 case emp=>
  cases h
  simp only [SV.rel] at hx
  obtain ⟨ad,rfl⟩:=hx
  exact pc t ad 0
 case own c e=>
  simp only [SV.rel] at hx
  split at h
  ·rename_i ep t' xs hc
   cases hb:Nat.beq ep e&&ok c
   ·rw [hb] at h;cases h
   ·rw [hb] at h
    rw [Bool.and_eq_true] at hb
    have:=Nat.eq_of_beq_eq_true hb.1
    subst this
    exact m5 hm hF hok hc (.inl ⟨rfl,hb.2⟩) h hx.2
  ·rename_i ep t' xs hc
   cases hb:Nat.beq ep e
   ·rw [hb] at h;cases h
   ·rw [hb] at h
    have:=Nat.eq_of_beq_eq_true hb
    subst this
    exact m5 hm hF hok hc (.inr rfl) h hx.2
  ·cases h
 case clip c e=>
  simp only [SV.rel] at hx
  split at h
  ·rename_i ep t' xs hc
   cases hb:Nat.beq ep e&&ok c
   ·rw [hb] at h;cases h
   ·rw [hb] at h
    rw [Bool.and_eq_true] at hb
    have:=Nat.eq_of_beq_eq_true hb.1
    subst this
    exact m5 hm hF hok hc (.inl ⟨rfl,hb.2⟩) h hx.2.1
  ·rename_i ep t' xs hc
   cases hb:Nat.beq ep e
   ·rw [hb] at h;cases h
   ·rw [hb] at h
    have:=Nat.eq_of_beq_eq_true hb
    subst this
    exact m5 hm hF hok hc (.inr rfl) h hx.2.1
  ·cases h
 case part c e off len=>
  simp only [SV.rel] at hx
  split at h
  ·rename_i ep t' xs hc
   cases hb:Nat.beq ep e&&ok c
   ·rw [hb] at h;cases h
   ·rw [hb] at h
    rw [Bool.and_eq_true] at hb
    have:=Nat.eq_of_beq_eq_true hb.1
    subst this
    exact zd hm hF hok hc (.inl ⟨rfl,hb.2⟩) h hx.2
  ·rename_i ep t' xs hc
   cases hb:Nat.beq ep e
   ·rw [hb] at h;cases h
   ·rw [hb] at h
    have:=Nat.eq_of_beq_eq_true hb
    subst this
    exact zd hm hF hok hc (.inr rfl) h hx.2
  ·cases h
theorem tE:∀ (t:Ty) (cs:List SV) (x:t.T) (vs:List Value),r8 ok R.hp t cs=some x->SV.bM R cs vs->Rep F' t x vs
 |.bool,cs,x,vs,h,hr=>bW hF _ _ _ (ft hm .bool cs x vs h hr)
 |.u64,cs,x,vs,h,hr=>bW hF _ _ _ (ft hm .u64 cs x vs h hr)
 |.u8,cs,x,vs,h,hr=>bW hF _ _ _ (ft hm .u8 cs x vs h hr)
 |.int,cs,x,vs,h,hr=>bW hF _ _ _ (ft hm .int cs x vs h hr)
 |.str,cs,x,vs,h,hr=>bW hF _ _ _ (ft hm .str cs x vs h hr)
 |.elem,cs,x,vs,h,hr=>bW hF _ _ _ (ft hm .elem cs x vs h hr)
 |.prod a b,cs,x,vs,h,hr=>by
  obtain ⟨h1,h2⟩:=bx h
  have r1:=tE a _ _ _ h1 (SV.dV hr a.size)
  have r2:=tE b _ _ _ h2 (SV.dW hr a.size)
  refine ⟨?_,r1,r2⟩
  rw [<-List.take_append_drop a.size vs,List.length_append,qK _ _ _ r1,qK _ _ _ r2]
 |.arr n t,cs,x,vs,h,hr=>by
  simp only [r8] at h
  split at h
  ·rename_i hl
   obtain ⟨h1,h2⟩:=ow t.d h
   refine ⟨by rw [SV.aP hr,hl],by simpa using h1,λi hi=> ?_⟩
   have:=h2 i (by simpa using hi)
   simp only [List.getElem_range] at this
   exact tE t _ _ _ this (SV.dV (SV.dW hr (i*t.size)) t.size)
  ·cases h
 |.list t,cs,x,vs,h,hr=>by
  simp only [r8] at h
  split at h
  ·obtain ⟨y,rfl,hy⟩:=lE h
   obtain ⟨v,rfl,hv⟩:=cm hr
   exact NJ hm hF hok hy hv
  ·cases h
end
theorem oi {ok:Nat->Bool} {hp:Hp}:∀ {t:Ty} {cs:List SV} {x:t.T},r8 ok hp t cs=some x->cs.length=t.size
 |.bool,cs,x,h=>by rw [Ge h];rfl
 |.u64,cs,x,h=>by rw [Mh h];rfl
 |.u8,cs,x,h=>by rw [VF h];rfl
 |.int,cs,x,h=>by rw [Mj h];rfl
 |.str,cs,x,h=>by rw [Mi h];rfl
 |.elem,cs,x,h=>by rw [Gd h];rfl
 |.prod a b,cs,x,h=>by
  obtain ⟨h1,h2⟩:=bx h
  have l1:=oi h1
  have l2:=oi h2
  simp only [List.length_take,List.length_drop] at l1 l2
  simp only [Ty.size]
  omega
 |.arr n t,cs,x,h=>by
  simp only [r8] at h
  split at h
  ·assumption
  ·cases h
 |.list t,cs,x,h=>by
  simp only [r8] at h
  split at h
  ·obtain ⟨y,rfl,_⟩:=lE h
   rfl
  ·cases h
end Sx
end Go.Proofs.YtohjofabochgfaaGreat

namespace Go.Proofs.YtohjofabochgfaaGreat
namespace Sx
open Go
inductive Sh where
 |val (b:Bool) (t:Ty)
 |own (n:Nat)
 |ptr (n i off:Nat)
 |fn (f:FuncId) (ns:List Nat)
 |ifp (t:TypeId) (n:Nat)
 |nq|dA|undef
def Sh.T:Sh->Type
 |.val _ t=>t.T
 |_=>Unit
inductive CSh where
 |row (t:Ty)
 |frz (t:Ty)
 |cells (l:List Sh)
 |gone
def ShT:List Sh->Type
 | []=>Unit
 |s::r=>s.T×ShT r
def CSh.T:CSh->Type
 |.row t=>List t.T
 |.frz t=>List t.T
 |.cells l=>ShT l
 |.gone=>Unit
def CSh.ep:CSh->Nat
 |.gone=>1
 |_=>0
def CSh.uE:CSh->Bool
 |.gone=>true
 |_=>false
def EO:List (Nat×CSh)->Type
 | []=>Unit
 |c::r=>c.2.T×EO r
def SlT:List (Nat×Sh)->Type
 | []=>Unit
 |c::r=>c.2.T×SlT r
abbrev Bd:=List (Nat×Option Nat)
def cU:Bd->Nat->Option (Option Nat)
 | [],_=>none
 |(m,o)::r,n=>cond (Nat.beq m n) (some o) (cU r n)
def RU (b:Bd) (n:Nat) (o:Option Nat):Bd:=match cU b n with
 |some _=>b
 |none=>(n,o)::b
def AL:List Nat->List SV->Bd->Bd
 |n::ns,.ptr c _ _ _::r,b=>AL ns r (RU b n (some c))
 |_,_,b=>b
def JW:Sh->SV->Bd->Bd
 |.own n,.own c _,b=>RU b n (some c)
 |.own n,.emp,b=>RU b n none
 |.ptr n _ _,.ptr c _ _ _,b=>RU b n (some c)
 |.fn _ ns,.fn _ _ caps,b=>AL ns caps b
 |.ifp _ n,.iface _ (.ptr c _ _ _),b=>RU b n (some c)
 |_,_,b=>b
def Sh.size:Sh->Nat
 |.val _ t=>t.size
 |_=>1
def l8:List Sh->List SV->Bd->Bd
 |s::r,cs,b=>l8 r (cs.drop s.size) (JW s (cs.headD .bB) b)
 | [],_,b=>b
def NR (tm:List SV):List (Nat×Sh)->Bd->Bd
 |(i,s)::r,b=>NR tm r (JW s (tm.getD i .bB) b)
 | [],b=>b
def eB (hp:Hp):List (Nat×CSh)->Bd->Bd
 |(n,.cells l)::r,b=>eB hp r (match cU b n with
  |some (some c)=>match hp c with
   |some ⟨_,.cells vs⟩=>l8 l vs b
   |_=>b
  |_=>b)
 |_::r,b=>eB hp r b
 | [],b=>b
def xw (bd:Bd) (hp:Hp) (n c e:Nat):Bool:=match cU bd n with
 |some (some c')=>Nat.beq c' c&&(match hp c with
  |some ch=>Nat.beq ch.ep e
  |none=>false)
 |_=>false
def CA (bd:Bd) (n:Nat):Bool:=match cU bd n with
 |some none=>true
 |_=>false
def sK (bd:Bd) (hp:Hp):List Nat->List SV->Bool
 | [],[]=>true
 |n::ns,.ptr c e i off::r=>xw bd hp n c e&&Nat.beq i 0&&Nat.beq off 0&&sK bd hp ns r
 |_,_=>false
def EY (b:Bool):Option Unit:=cond b (some ()) none
def km (bd:Bd) (hp:Hp):Sh->List SV->Bool
 |.own n,[.own c e]=>xw bd hp n c e
 |.own n,[.emp]=>CA bd n
 |.ptr n i off,[.ptr c e i' off']=>xw bd hp n c e&&Nat.beq i i'&&Nat.beq off off'
 |.fn f ns,[.fn (.func f') [] caps]=>Nat.beq f f'&&sK bd hp ns caps
 |.ifp t n,[.iface t' (.ptr c e i off)]=>Nat.beq t t'&&(xw bd hp n c e&&(Nat.beq i 0&&Nat.beq off 0))
 |.nq,[.nq]=>true
 |.dA,[.dA]=>true
 |.undef,[.undef]=>true
 |_,_=>false
def od (bd:Bd) (ok:Nat->Bool) (hp:Hp):(s:Sh)->List SV->Option s.T
 |.val _ t=>λcs=>r8 ok hp t cs
 |.own n=>λcs=>EY (km bd hp (.own n) cs)
 |.ptr n i off=>λcs=>EY (km bd hp (.ptr n i off) cs)
 |.fn f ns=>λcs=>EY (km bd hp (.fn f ns) cs)
 |.ifp t n=>λcs=>EY (km bd hp (.ifp t n) cs)
 |.nq=>λcs=>EY (km bd hp .nq cs)
 |.dA=>λcs=>EY (km bd hp .dA cs)
 |.undef=>λcs=>EY (km bd hp .undef cs)
def oB:(s:Sh)->s.T->List SV
 |.val _ t,x=>unpack t x
 |.own n,_=> [.own n 0]
 |.ptr n i off,_=> [.ptr n 0 i off]
 |.fn f ns,_=> [.fn (.func f) [] (ns.map λn=>.ptr n 0 0 0)]
 |.ifp t n,_=> [.iface t (.ptr n 0 0 0)]
 |.nq,_=> [.nq]
 |.dA,_=> [.dA]
 |.undef,_=> [.undef]
def Sh.agg:Sh->Bool
 |.val b _=>b
 |_=>false
def KL:Bool->SV->Option (List SV)
 |true,.agg l=>some l
 |true,_=>none
 |false,x=>some [x]
def wX (bd:Bd) (ok:Nat->Bool) (hp:Hp) (s:Sh) (x:SV):Option s.T:=
 match KL s.agg x with
 |some l=>od bd ok hp s l
 |none=>none
def oA (s:Sh) (x:s.T):SV:=nB s.agg (oB s x)
def ky (bd:Bd) (ok:Nat->Bool) (hp:Hp):(l:List Sh)->List SV->Option (ShT l)
 | [],[]=>some ()
 | [],_::_=>none
 |s::r,cs=>oj (od bd ok hp s (cs.take s.size)) (ky bd ok hp r (cs.drop s.size))
def jd:(l:List Sh)->ShT l->List SV
 | [],_=> []
 |s::r,x=>oB s x.1++jd r x.2
def pZ (bd:Bd) (ok:Nat->Bool) (hp:Hp) (tm:List SV):(l:List (Nat×Sh))->Option (SlT l)
 | []=>some ()
 |c::r=>oj (wX bd ok hp c.2 (tm.getD c.1 .bB)) (pZ bd ok hp tm r)
def eG:(l:List (Nat×Sh))->SlT l->List SV->List SV
 | [],_,tm=>tm
 |c::r,x,tm=>eG r x.2 (tm.set c.1 (oA c.2 x.1))
def gj (bd:Bd) (ok:Nat->Bool) (hp:Hp):(s:CSh)->Chunk->Option s.T
 |.row t,.row t' xs=>bQ t t' xs
 |.row _,_=>none
 |.frz t,.frz t' xs=>bQ t t' xs
 |.frz _,_=>none
 |.cells l,.cells vs=>ky bd ok hp l vs
 |.cells _,_=>none
 |.gone,_=>none
def CG:(s:CSh)->Option s.T
 |.gone=>some ()
 |_=>none
def IB:(s:CSh)->Option s.T
 |.row t=>cond (Nat.blt 0 t.size) (some ([]:List t.T)) none
 |_=>none
def bC:(s:CSh)->s.T->Chunk
 |.row t,xs=>.row t xs
 |.frz t,xs=>.frz t xs
 |.cells l,x=>.cells (jd l x)
 |.gone,_=>.row .u8 []
def iU (bd:Bd) (ok:Nat->Bool) (hp:Hp) (n:Nat) (s:CSh):Option s.T:=
 match cU bd n with
 |some (some c)=>match hp c with
  |some ch=>gj bd ok hp s ch.body
  |none=>none
 |some none=>IB s
 |none=>CG s
def dH (bd:Bd) (ok:Nat->Bool) (hp:Hp):(l:List (Nat×CSh))->Option (EO l)
 | []=>some ()
 |c::r=>oj (iU bd ok hp c.1 c.2) (dH bd ok hp r)
def dD:(l:List (Nat×CSh))->EO l->Hp
 | [],_=>λ_=>none
 |c::r,x=>λn=>cond (Nat.beq n c.1) (some ⟨c.2.ep,bC c.2 x.1⟩) (dD r x.2 n)
def an6 (c:Nat) (p:Nat×Option Nat):Bool:=match p.2 with
 |some o=>Nat.beq o c
 |none=>false
def oI (lists:Bool) (bd:Bd) (c:Nat):Bool:=lists&& !(bd.any (an6 c))
structure Shape where
 n:Nat
 ais:List (Nat×Sh)
 chunks:List (Nat×CSh)
 fixed:Nat
 lists:Bool:=true
abbrev Shape.T (s:Shape):Type:=SlT s.ais×EO s.chunks
def Shape.inj (s:Shape) (x:s.T):St:=⟨eG s.ais x.1 (List.replicate s.n .bB),dD s.chunks x.2⟩
def Shape.bd (s:Shape) (st:St):Bd:=eB st.hp s.chunks (NR st.tm s.ais (((List.range s.fixed).filter λk=> !(s.chunks.any λc=>Nat.beq c.1 k&&c.2.uE)).map λk=>(k,some k)))
def distinct:List Nat->Bool
 | []=>true
 |x::r=> !(r.any λy=>Nat.beq x y)&&distinct r
def Shape.EP (s:Shape) (st:St) (bd:Bd):Bool:=
 distinct (s.chunks.map (·.1))&&
 s.chunks.all (λc=>s.chunks.all λc'=>Nat.beq c.1 c'.1||(match cU bd c.1,cU bd c'.1 with
  |some (some o),some (some o')=> !Nat.beq o o'
  |_,_=>true))&&
 bd.all (λp=>s.chunks.any λc=>Nat.beq c.1 p.1)&&
 (List.range s.fixed).all λk=>(match cU bd k with
  |some (some c)=>Nat.beq c k&&(match st.hp k with
   |some ch=>Nat.beq ch.ep 0
   |none=>false)
  |some none=>false
  |none=>s.chunks.any λc=>Nat.beq c.1 k&&c.2.uE)
def Shape.prj (s:Shape) (st:St):Option s.T:=
 let bd:=s.bd st
 cond (s.EP st bd&&Nat.beq st.tm.length s.n) (oj (pZ bd (oI s.lists bd) st.hp st.tm s.ais) (dH bd (oI s.lists bd) st.hp s.chunks)) none
def Shape.on (s:Shape) (st:St) (k:s.T->Prop):Prop:=match s.prj st with
 |some x=>k x
 |none=>False
end Sx
end Go.Proofs.YtohjofabochgfaaGreat

namespace Go.Proofs.YtohjofabochgfaaGreat
namespace Sx
open Go
theorem gW {b:Bool} {x:Unit} (h:EY b=some x):b=true:=by
 cases b
 ·cases h
 ·rfl
theorem fM {bd:Bd} {hp:Hp} {s:Sh} {cs:List SV} (h:km bd hp s cs=true):∃ y,cs= [y]:=by
 unfold km at h
 split at h<;>first|exact ⟨_,rfl⟩|(cases h;done)
theorem Il {bd:Bd} {ok:Nat->Bool} {hp:Hp} {s:Sh} {cs:List SV} {x:s.T} (h:od bd ok hp s cs=some x):(oB s x).length=cs.length:=by
 cases s<;>simp only [od] at h
 case val b t=>rw [oi h];exact fR t x
 all_goals (obtain ⟨y,rfl⟩:=fM (gW h);rfl)
theorem jN {bd:Bd} {ok:Nat->Bool} {hp:Hp}:∀ {l:List Sh} {cs:List SV} {x:ShT l},ky bd ok hp l cs=some x->(jd l x).length=cs.length
 | [],[],_,_=>rfl
 | [],_::_,_,h=>by cases h
 |s::r,cs,x,h=>by
  obtain ⟨h1,h2⟩:=bx h
  have l1:=Il h1
  have l2:=jN h2
  simp only [jd,List.length_append,l1,l2,List.length_take,List.length_drop]
  omega
theorem rc {bd:Bd} {ok:Nat->Bool} {hp:Hp} {s:CSh} {b:Chunk} {y:s.T} (h:gj bd ok hp s b=some y):(bC s y).shape=b.shape:=by
 cases s<;>cases b<;>simp only [gj] at h<;>first|(cases h;done)|skip
 case row.row t t' xs=>
  obtain ⟨e,rfl⟩:=aZ h
  subst e
  rfl
 case frz.frz t t' xs=>
  obtain ⟨e,rfl⟩:=aZ h
  subst e
  rfl
 case cells.cells l vs=>
  simp only [bC,Chunk.shape,jN h]
theorem dL {bd:Bd} {ok:Nat->Bool} {hp:Hp}:∀ {l:List (Nat×CSh)} {x:EO l},dH bd ok hp l=some x->∀ {n:Nat} {ch:Ch},dD l x n=some ch->
 ∃ (s:CSh) (y:s.T),(n,s) ∈ l/\iU bd ok hp n s=some y/\ch=⟨s.ep,bC s y⟩
 | [],_,_,_,_,h=>by cases h
 |c::r,x,h,n,ch,hn=>by
  obtain ⟨h1,h2⟩:=bx h
  simp only [dD] at hn
  cases hb:Nat.beq n c.1
  ·rw [hb] at hn
   obtain ⟨s,y,h3,h4⟩:=dL h2 hn
   exact ⟨s,y,List.mem_cons_of_mem _ h3,h4⟩
  ·rw [hb] at hn
   have hnc:=Nat.eq_of_beq_eq_true hb
   subst hnc
   exact ⟨c.2,x.1,by simp,h1,(Option.some.inj hn).symm⟩
theorem oC:∀ {l:List (Nat×CSh)} {x:EO l} {n:Nat},(∃ s,(n,s) ∈ l)->∃ ch,dD l x n=some ch
 | [],_,_,h=>by obtain ⟨_,h⟩:=h;cases h
 |c::r,x,n,h=>by
  simp only [dD]
  cases hb:Nat.beq n c.1
  ·obtain ⟨s,h⟩:=h
   rcases List.mem_cons.1 h with h|h
   ·rw [<-h,Nat.beq_refl] at hb;cases hb
   ·exact oC ⟨s,h⟩
  ·exact ⟨_,rfl⟩
theorem N4:∀ {bd:Bd} {n:Nat} {o:Option Nat},cU bd n=some o->∃ p ∈ bd,p.1=n
 | [],_,_,h=>by cases h
 |(m,o')::r,n,o,h=>by
  simp only [cU] at h
  cases hb:Nat.beq m n
  ·rw [hb] at h
   obtain ⟨p,hp,h1⟩:=N4 h
   exact ⟨p,by simp [hp],h1⟩
  ·exact ⟨(m,o'),by simp,Nat.eq_of_beq_eq_true hb⟩
def Ctx.named (R:Ctx) (F':Nat->Option Obj) (U':Oa) (bd:Bd) (hp:Hp):Ctx:=⟨F',U',λn=>match cU bd n with
 |some (some c)=>R.σ c
 |_=>none,hp⟩
section
variable {s:Shape} {R:Ctx} {st:St} {bd:Bd} {ok:Nat->Bool} {F':Nat->Option Obj} {U':Oa} {x:EO s.chunks} (hok:s.EP st bd=true) (hx:dH bd ok st.hp s.chunks=some x) (hR:R.hp=st.hp)
include hok hx
theorem JY {n:Nat} {o:Option Nat} (h:cU bd n=some o):∃ (cs:CSh) (y:cs.T),iU bd ok st.hp n cs=some y/\dD s.chunks x n=some ⟨0,bC cs y⟩:=by
 obtain ⟨p,hp,rfl⟩:=N4 h
 unfold Shape.EP at hok
 simp only [Bool.and_eq_true,List.all_eq_true,List.any_eq_true] at hok
 obtain ⟨c,hc,hcn⟩:=hok.1.2 p hp
 have:=Nat.eq_of_beq_eq_true hcn
 obtain ⟨ch,hch⟩:=oC (x:=x) (n:=p.1) ⟨c.2,by rw [<-this];exact hc⟩
 obtain ⟨cs,y,h1,h2,h3⟩:=dL hx hch
 refine ⟨cs,y,h2,?_⟩
 rw [hch,h3]
 have:cs.ep=0:=by
  cases cs<;>try rfl
  simp only [iU,h] at h2
  exfalso
  split at h2
  ·rename_i heq
   split at h2<;>simp [gj] at h2
  ·simp [IB] at h2
  ·rename_i heq
   cases heq
 rw [this]
theorem Iz {n c e:Nat} (h:xw bd st.hp n c e=true):∃ b b',st.hp c=some ⟨e,b⟩/\dD s.chunks x n=some ⟨0,b'⟩/\b'.shape=b.shape/\(R.named F' U' bd (dD s.chunks x)).σ n=R.σ c:=by
 unfold xw at h
 split at h
 ·rename_i c' hb
  rw [Bool.and_eq_true] at h
  have:=Nat.eq_of_beq_eq_true h.1
  subst this
  have h2:=h.2
  split at h2
  ·rename_i ch hch
   have he:=Nat.eq_of_beq_eq_true h2
   obtain ⟨cs,y,h3,h4⟩:=JY hok hx hb
   simp only [iU,hb,hch] at h3
   exact ⟨ch.body,_,by rw [hch,<-he],h4,rc h3,by simp only [Ctx.named,hb]⟩
  ·cases h2
 ·cases h
theorem Ym {n:Nat} {ad:Option Addr} (h:CA bd n=true):(R.named F' U' bd (dD s.chunks x)).own n 0 (.slice ad 0 0):=by
 unfold CA at h
 split at h
 ·rename_i hb
  obtain ⟨cs,y,h3,h4⟩:=JY hok hx hb
  simp only [iU,hb] at h3
  cases cs<;>simp only [IB] at h3<;>try (cases h3;done)
  case row t=>
   cases hz:Nat.blt 0 t.size
   ·rw [hz] at h3;cases h3
   ·rw [hz] at h3
    cases h3
    refine ⟨_,h4,Nat.le_refl _,λ_=>⟨_,h4,Nat.le_refl _,λ_=> ?_⟩⟩
    refine ⟨rfl,Nat.le_refl _,ad,0,rfl,Nat.le_refl _,?_⟩
    simp only [Ctx.named,hb]
 ·cases h
include hR
theorem anI {n c e:Nat} {v:Value} (h:xw bd st.hp n c e=true) (hv:R.own c e v):(R.named F' U' bd (dD s.chunks x)).own n 0 v:=by
 obtain ⟨b,b',h1,h2,h3,h4⟩:=Iz (R:=R) hok hx h
 obtain ⟨h5,h6,ad,cap,h7,h8,h9⟩:=Ctx.dp (b:=b) (by rw [hR];exact h1) (Ctx.cQ (by rw [hR];exact h1) hv)
 refine ⟨_,h2,Nat.le_refl _,λ_=>⟨_,h2,Nat.le_refl _,λ_=> ?_⟩⟩
 rw [h4]
 simp only [h3]
 exact ⟨h5,h6,ad,cap,h7,h8,h9⟩
theorem P9 {n c e i off:Nat} {v:Value} (h:xw bd st.hp n c e=true) (hv:R.ptr c e i off v):(R.named F' U' bd (dD s.chunks x)).ptr n 0 i off v:=by
 obtain ⟨b,b',h1,h2,h3,h4⟩:=Iz (R:=R) hok hx h
 obtain ⟨ch,g1,g2,g3⟩:=hv
 rw [hR,h1] at g1
 cases g1
 obtain ⟨L,g4,g5⟩:=g3 rfl
 refine ⟨_,h2,Nat.le_refl _,λ_=>⟨L,by rw [h4];exact g4,?_⟩⟩
 simp only [h3]
 exact g5
theorem Vv:∀ (ns:List Nat) (caps:List SV) (us:List Value),sK bd st.hp ns caps=true->SV.bM R caps us->SV.bM (R.named F' U' bd (dD s.chunks x)) (ns.map λn=>.ptr n 0 0 0) us
 | [],[],us,_,h=>h
 | [],_::_,_,h,_=>by cases h
 |n::ns,[],_,h,_=>by cases h
 |n::ns,y::r,us,h,hr=>by
  cases y<;>simp only [sK] at h<;>try (cases h;done)
  case ptr c e i off=>
   simp only [Bool.and_eq_true] at h
   obtain ⟨⟨⟨h1,h2⟩,h3⟩,h4⟩:=h
   have e1:=Nat.eq_of_beq_eq_true h2
   have e2:=Nat.eq_of_beq_eq_true h3
   subst e1 e2
   simp only [SV.bM] at hr
   obtain ⟨v,us',rfl,hv,hr⟩:=hr
   simp only [SV.rel] at hv
   simp only [List.map_cons,SV.bM]
   exact ⟨v,us',rfl,by simp only [SV.rel];exact ⟨hv.1,P9 hok hx hR h1 hv.2⟩,Vv ns r us' h4 hr⟩
theorem wY {w:World} (hm:dg R w) (hF:∀ b o,R.F b=some o->F' b=some o) (hok':∀ c ch L,ok c=true->R.hp c=some ch->R.σ c=some L->F' L.block=w.heap[L.block]?) {sh:Sh} {cs:List SV} {y:sh.T} {us:List Value} (h:od bd ok st.hp sh cs=some y) (hr:SV.bM R cs us):SV.bM (R.named F' U' bd (dD s.chunks x)) (oB sh y) us:=by
 cases sh<;>simp only [od] at h
 case val b t=>
  rw [<-hR] at h
  exact e8 t y us (tE hm hF hok' t cs y us h hr)
 case own n=>
  replace h:=gW h
  obtain ⟨z,rfl⟩:=fM h
  obtain ⟨v,rfl,hv⟩:=cm hr
  cases z<;>simp only [km,Bool.false_eq_true] at h
  case own c e=>
   simp only [SV.rel] at hv
   exact aX (by simp only [SV.rel];exact ⟨hv.1,anI hok hx hR h hv.2⟩)
  case emp=>
   simp only [SV.rel] at hv
   obtain ⟨ad,rfl⟩:=hv
   exact aX (by simp only [SV.rel];exact ⟨rfl,Ym hok hx h⟩)
 case ptr n i off=>
  replace h:=gW h
  obtain ⟨z,rfl⟩:=fM h
  obtain ⟨v,rfl,hv⟩:=cm hr
  cases z<;>simp only [km,Bool.false_eq_true,Bool.and_eq_true] at h
  case ptr c e i' off'=>
   obtain ⟨⟨h1,h2⟩,h3⟩:=h
   have e1:=Nat.eq_of_beq_eq_true h2
   have e2:=Nat.eq_of_beq_eq_true h3
   subst e1 e2
   simp only [SV.rel] at hv
   exact aX (by simp only [SV.rel];exact ⟨hv.1,P9 hok hx hR h1 hv.2⟩)
 case fn f ns=>
  replace h:=gW h
  obtain ⟨z,rfl⟩:=fM h
  obtain ⟨v,rfl,hv⟩:=cm hr
  cases z<;>try (simp only [km,Bool.false_eq_true] at h;done)
  case fn g first caps=>
   cases g with
   |func f'=>
    cases first with
    |nil=>
     simp only [km,Bool.and_eq_true] at h
     have e1:=Nat.eq_of_beq_eq_true h.1
     subst e1
     simp only [SV.rel] at hv
     obtain ⟨l1,l2,rfl,h3,h4⟩:=hv
     exact aX (by simp only [SV.rel];exact ⟨l1,l2,rfl,h3,Vv hok hx hR ns _ l2 h.2 h4⟩)
    |cons a b=>simp [km] at h
   |_=>simp [km] at h
 case ifp t n=>
  replace h:=gW h
  obtain ⟨z,rfl⟩:=fM h
  obtain ⟨v,rfl,hv⟩:=cm hr
  cases z<;>try (simp only [km,Bool.false_eq_true] at h;done)
  case iface t' q=>
   cases q<;>try (simp only [km,Bool.false_eq_true] at h;done)
   case ptr c e i off=>
    simp only [km,Bool.and_eq_true] at h
    obtain ⟨h0,h1,h2,h3⟩:=h
    have e0:=Nat.eq_of_beq_eq_true h0
    have e1:=Nat.eq_of_beq_eq_true h2
    have e2:=Nat.eq_of_beq_eq_true h3
    subst e0 e1 e2
    simp only [SV.rel] at hv
    obtain ⟨y,rfl,hy⟩:=hv
    exact aX (by simp only [SV.rel];exact ⟨y,rfl,hy.1,P9 hok hx hR h1 hy.2⟩)
 all_goals (
  replace h:=gW h
  obtain ⟨z,rfl⟩:=fM h
  obtain ⟨v,rfl,hv⟩:=cm hr
  cases z<;>simp only [km,Bool.false_eq_true] at h
  simp only [SV.rel] at hv
  exact aX (by simp only [SV.rel];exact hv))
theorem yT {w:World} (hm:dg R w) (hF:∀ b o,R.F b=some o->F' b=some o) (hok':∀ c ch L,ok c=true->R.hp c=some ch->R.σ c=some L->F' L.block=w.heap[L.block]?):∀ {l:List Sh} {cs:List SV} {y:ShT l} {us:List Value},ky bd ok st.hp l cs=some y->SV.bM R cs us->SV.bM (R.named F' U' bd (dD s.chunks x)) (jd l y) us
 | [],[],_,_,_,hr=>hr
 | [],_::_,_,_,h,_=>by cases h
 |sh::r,cs,y,us,h,hr=>by
  obtain ⟨h1,h2⟩:=bx h
  have r1:=wY (U':=U') hok hx hR hm hF hok' h1 (SV.dV hr sh.size)
  have r2:=yT hm hF hok' h2 (SV.dW hr sh.size)
  have:=SV.cD r1 r2
  rwa [List.take_append_drop] at this
theorem Qe {w:World} (hm:dg R w) (hF:∀ b o,R.F b=some o->F' b=some o) (hok':∀ c ch L,ok c=true->R.hp c=some ch->R.σ c=some L->F' L.block=w.heap[L.block]?) {sh:Sh} {z:SV} {y:sh.T} {v:Value} (h:wX bd ok st.hp sh z=some y) (hr:SV.rel R z v):SV.rel (R.named F' U' bd (dD s.chunks x)) (oA sh y) v:=by
 unfold wX at h
 unfold oA
 cases ha:sh.agg<;>rw [ha] at h
 ·have h1:=wY (U':=U') hok hx hR hm hF hok' h (aX hr)
  simp only [nB,Bool.false_eq_true,if_false]
  cases hc:oB sh y with
  |nil=>rw [hc] at h1;simp only [SV.bM] at h1;cases h1
  |cons u l=>
   rw [hc] at h1
   simp only [SV.bM] at h1
   obtain ⟨v',r,he,h2,_⟩:=h1
   cases he
   exact h2
 ·cases z<;>simp only [KL] at h<;>try (cases h;done)
  case agg l=>
   simp only [SV.rel] at hr
   obtain ⟨vs,rfl,h1,h2⟩:=hr
   exact uw (wY hok hx hR hm hF hok' h h1) h2
theorem kx {w:World} (hm:dg R w) (hF:∀ b o,R.F b=some o->F' b=some o) (hok':∀ c ch L,ok c=true->R.hp c=some ch->R.σ c=some L->F' L.block=w.heap[L.block]?) {tmps:List Value} (ht:SV.bM R st.tm tmps):∀ {l:List (Nat×Sh)} {y:SlT l} {tm:List SV},pZ bd ok st.hp st.tm l=some y->
 SV.bM (R.named F' U' bd (dD s.chunks x)) tm tmps->SV.bM (R.named F' U' bd (dD s.chunks x)) (eG l y tm) tmps
 | [],_,_,_,h=>h
 |c::r,y,tm,h,htm=>by
  obtain ⟨h1,h2⟩:=bx h
  simp only [eG]
  refine kx hm hF hok' ht h2 ?_
  by_cases hc:c.1<st.tm.length
  ·have hl:=SV.aP ht
   have hc':c.1<tmps.length:=by omega
   have hv:=SV.kr ht c.1 hc hc'
   have hg:st.tm.getD c.1 .bB=st.tm[c.1]:=by simp [List.getD_eq_getElem?_getD,List.getElem?_eq_getElem hc]
   rw [hg] at h1
   have h3:=SV.U0 htm c.1 (Qe hok hx hR hm hF hok' h1 hv)
   rwa [List.set_getElem_self] at h3
  ·have:tm.length=st.tm.length:=by rw [<-SV.aP htm,<-SV.aP ht]
   rw [List.set_eq_of_length_le (by omega)]
   exact htm
end
end Sx
end Go.Proofs.YtohjofabochgfaaGreat

namespace Go.Proofs.YtohjofabochgfaaGreat
namespace Sx
open Go
theorem yS {bd:Bd} {ok:Nat->Bool} {hp:Hp} {s:CSh} {b:Chunk} {y:s.T} (h:gj bd ok hp s b=some y):(bC s y).mut=b.mut:=by
 cases s<;>cases b<;>simp only [gj] at h<;>first|(cases h;done)|rfl
theorem jk:∀ {bd:Bd} {n:Nat} {o:Option Nat},cU bd n=some o->(n,o) ∈ bd
 | [],_,_,h=>by cases h
 |(m,o')::r,n,o,h=>by
  simp only [cU] at h
  cases hb:Nat.beq m n
  ·rw [hb] at h
   exact List.mem_cons_of_mem _ (jk h)
  ·rw [hb] at h
   have:=Nat.eq_of_beq_eq_true hb
   subst this
   cases h
   simp
theorem GC {l:Bool} {bd:Bd} {n c:Nat} (h:cU bd n=some (some c)):oI l bd c=false:=by
 have hm:=jk h
 unfold oI
 have:bd.any (an6 c)=true:=List.any_eq_true.2 ⟨_,hm,by simp [an6]⟩
 rw [this]
 cases l<;>rfl
open Classical in
noncomputable def Ctx.frozen (R:Ctx) (w:World) (ok:Nat->Bool):Nat->Option Obj:=λb=>
 if ∃ c ch L,ok c=true/\R.hp c=some ch/\R.σ c=some L/\L.block=b then w.heap[b]? else R.F b
theorem Je {R:Ctx} {w:World} (hm:dg R w) (ok:Nat->Bool):∀ b o,R.F b=some o->R.frozen w ok b=some o:=λb o h=>by
 unfold Ctx.frozen
 split
 ·exact hm.F b o h
 ·exact h
theorem Q2 {R:Ctx} {w:World} (hm:dg R w) (ok:Nat->Bool):∀ b o,R.frozen w ok b=some o->w.heap[b]? =some o:=λb o h=>by
 unfold Ctx.frozen at h
 split at h
 ·exact h
 ·exact hm.F b o h
theorem MO {R:Ctx} (w:World) (ok:Nat->Bool):∀ c ch L,ok c=true->R.hp c=some ch->R.σ c=some L->R.frozen w ok L.block=w.heap[L.block]? :=λc ch L h1 h2 h3=>by
 unfold Ctx.frozen
 rw [if_pos ⟨c,ch,L,h1,h2,h3,rfl⟩]
theorem dw {R:Ctx} {w:World} (hm:dg R w) {c:Nat} {ch:Ch} {L:Loc} (hc:R.hp c=some ch) (hσ:R.σ c=some L):
 (ch.body.mut=true->R.F L.block=none/\R.U L.block=none)/\(ch.body.mut=false->∃ o,R.F L.block=some o):=by
 have h:=hm.ch c ch hc
 obtain ⟨ep,body⟩:=ch
 cases body with
 |row t xs=>
  simp only [fg,hσ] at h
  exact ⟨λ_=>⟨h.2.2.1,h.2.2.2.1⟩,λe=>(by cases e)⟩
 |frz t xs=>
  simp only [fg,hσ] at h
  obtain ⟨_,_,arr,E,fz,h1,_⟩:=h
  exact ⟨λe=>(by cases e),λ_=>⟨_,h1⟩⟩
 |cells vs=>
  simp only [fg] at h
  obtain ⟨L',h0,h1,h2,_⟩:=h
  rw [hσ] at h0
  cases h0
  exact ⟨λ_=>⟨h1,h2⟩,λe=>(by cases e)⟩
theorem ajS {R:Ctx} {w:World} (hm:dg R w) (ok:Nat->Bool):∀ b o,R.frozen w ok b=some o->R.U b=none:=λb o h=>by
 unfold Ctx.frozen at h
 split at h
 ·rename_i hq
  obtain ⟨c,ch,L,h1,h2,h3,rfl⟩:=hq
  obtain ⟨k1,k2⟩:=dw hm h2 h3
  cases hmu:ch.body.mut
  ·obtain ⟨o',ho⟩:=k2 hmu
   exact hm.FU _ o' ho
  ·exact (k1 hmu).2
 ·exact hm.FU b o h
theorem YX {R:Ctx} {w:World} (hm:dg R w) {ok:Nat->Bool} {c:Nat} {ch:Ch} {L:Loc} (hc:R.hp c=some ch) (hσ:R.σ c=some L) (hmu:ch.body.mut=true) (hn:ok c=false):R.frozen w ok L.block=none:=by
 unfold Ctx.frozen
 split
 ·rename_i hq
  obtain ⟨c',ch',L',h1,h2,h3,h4⟩:=hq
  cases hm':ch'.body.mut
  ·obtain ⟨o',ho⟩:=(dw hm h2 h3).2 hm'
   rw [h4,((dw hm hc hσ).1 hmu).1] at ho
   cases ho
  ·have:=hm.apart c' c ch' ch L' L h2 hc hm' hmu h3 hσ h4
   rw [this,hn] at h1
   cases h1
 ·exact ((dw hm hc hσ).1 hmu).1
section
variable {s:Shape} {R:Ctx} {st:St} {bd:Bd} {x:EO s.chunks} (hok:s.EP st bd=true) (hx:dH bd (oI s.lists bd) st.hp s.chunks=some x) (hR:R.hp=st.hp)
 {w:World} (hm:dg R w) {F':Nat->Option Obj} {U':Oa} (hF:∀ b o,R.F b=some o->F' b=some o)
 (hok':∀ c ch L,oI s.lists bd c=true->R.hp c=some ch->R.σ c=some L->F' L.block=w.heap[L.block]?)
 (hmut:∀ n c ch L,cU bd n=some (some c)->R.hp c=some ch->ch.body.mut=true->R.σ c=some L->F' L.block=none/\U' L.block=none)
include hok hx hR hm hF hok' hmut
theorem afz {n c:Nat} {cs:CSh} {y:cs.T} {ch:Ch} (hb:cU bd n=some (some c)) (hc:R.hp c=some ch) (h:gj bd (oI s.lists bd) st.hp cs ch.body=some y):
 fg (R.named F' U' bd (dD s.chunks x)) w n ⟨cs.ep,bC cs y⟩:=by
 have h0:=hm.ch c ch hc
 have hσ:(R.named F' U' bd (dD s.chunks x)).σ n=R.σ c:=by simp only [Ctx.named,hb]
 obtain ⟨ep,body⟩:=ch
 cases cs<;>cases body<;>simp only [gj] at h<;>try (cases h;done)
 case row.row t t' xs=>
  obtain ⟨e,rfl⟩:=aZ h
  subst e
  simp only [fg,bC] at h0⊢
  rw [hσ]
  refine ⟨h0.1,h0.2.1,?_⟩
  cases hL:R.σ c with
  |none=>have:=h0.2.2;rw [hL] at this;exact this
  |some L=>
   have:=h0.2.2
   rw [hL] at this
   obtain ⟨c1,c2,arr,E,c3,c4,c5,c6⟩:=this
   exact ⟨(hmut n c _ L hb hc rfl hL).1,(hmut n c _ L hb hc rfl hL).2,arr,E,c3,c4,c5,λi hi=>bW hF _ _ _ (c6 i hi)⟩
 case frz.frz t t' xs=>
  obtain ⟨e,rfl⟩:=aZ h
  subst e
  simp only [fg,bC] at h0⊢
  rw [hσ]
  refine ⟨h0.1,h0.2.1,?_⟩
  cases hL:R.σ c with
  |none=>have:=h0.2.2;rw [hL] at this;exact this
  |some L=>
   have:=h0.2.2
   rw [hL] at this
   obtain ⟨arr,E,fz,c3,c4,c5,c6⟩:=this
   exact ⟨arr,E,fz,hF _ _ c3,c4,c5,λi hi=>bW hF _ _ _ (c6 i hi)⟩
 case cells.cells l vs=>
  simp only [fg,bC] at h0⊢
  obtain ⟨L,h1,h2,h3,arr,E,h4,h5,h6,h7,h8⟩:=h0
  exact ⟨L,by rw [hσ];exact h1,(hmut n c _ L hb hc rfl h1).1,(hmut n c _ L hb hc rfl h1).2,arr,E,h4,h5,by rw [jN h];exact h6,yT hok hx hR hm hF hok' h h7,h8⟩
theorem IE (Jb:∀ b o,F' b=some o->w.heap[b]? =some o) (heapU:∀ b o,U' b=some o->w.heap[b]? =some o) (hFU:∀ b o,F' b=some o->U' b=none) (henv:R0 U'.env w):dg (R.named F' U' bd (dD s.chunks x)) w:=by
 refine ⟨Jb,heapU,λn ch hn=> ?_,λn n' ch ch' L L' h1 h2 m1 m2 s1 s2 hbl=> ?_,hFU,henv⟩
 ·obtain ⟨cs,y,hmem,hp,rfl⟩:=dL hx (hn:dD s.chunks x n=some ch)
  unfold iU at hp
  split at hp
  ·rename_i c hb
   split at hp
   ·rename_i ch hc
    exact afz hok hx hR hm hF hok' hmut hb (by rw [hR];exact hc) hp
   ·cases hp
  ·rename_i hb
   cases cs<;>simp only [IB] at hp<;>try (cases hp;done)
   case row t=>
    cases hz:Nat.blt 0 t.size
    ·rw [hz] at hp;cases hp
    ·rw [hz] at hp
     cases hp
     have hσ:(R.named F' U' bd (dD s.chunks x)).σ n=none:=by simp only [Ctx.named,hb]
     simp only [fg,bC]
     rw [hσ]
     exact ⟨cJ hz,by simp,trivial⟩
  ·rename_i hb
   cases cs<;>simp only [CG] at hp<;>try (cases hp;done)
   have hσ:(R.named F' U' bd (dD s.chunks x)).σ n=none:=by simp only [Ctx.named,hb]
   simp only [fg,bC]
   rw [hσ]
   exact ⟨by decide,by simp,trivial⟩
 ·have key:∀ (n:Nat) (ch:Ch) (L:Loc),(R.named F' U' bd (dD s.chunks x)).hp n=some ch->ch.body.mut=true->(R.named F' U' bd (dD s.chunks x)).σ n=some L->
   ∃ c ch₀ cs,(n,cs) ∈ s.chunks/\cU bd n=some (some c)/\R.hp c=some ch₀/\ch₀.body.mut=true/\R.σ c=some L:=λn ch L h m hs=>by
   obtain ⟨cs,y,hmem,hp,rfl⟩:=dL hx (h:dD s.chunks x n=some ch)
   unfold iU at hp
   simp only [Ctx.named] at hs
   split at hp
   ·rename_i c hb
    rw [hb] at hs
    split at hp
    ·rename_i ch hc
     exact ⟨c,ch,cs,hmem,hb,by rw [hR];exact hc,by rw [<-yS hp];exact m,hs⟩
    ·cases hp
   ·rename_i hb
    rw [hb] at hs
    cases hs
   ·rename_i hb
    rw [hb] at hs
    cases hs
  obtain ⟨c,c₀,cs,a1,a2,a3,a4,a5⟩:=key n ch L h1 m1 s1
  obtain ⟨c',c₀',cs',b1,b2,b3,b4,b5⟩:=key n' ch' L' h2 m2 s2
  have hcc:=hm.apart c c' c₀ c₀' L L' a3 b3 a4 b4 a5 b5 hbl
  subst hcc
  unfold Shape.EP at hok
  simp only [Bool.and_eq_true,List.all_eq_true] at hok
  have h3:=hok.1.1.2 _ a1 _ b1
  simp only [a2,b2,Bool.or_eq_true,Nat.beq_refl,Bool.not_true,Bool.false_eq_true,or_false] at h3
  exact Nat.eq_of_beq_eq_true h3
end
def Small (R:Ctx) (k:Nat):Prop:=∀ c ch,R.hp c=some ch->c<k/\ch.ep=0
theorem Shape.arO {s:Shape} {R₀ R:Ctx} {st:St} {a:Act} {w:World} {x:s.T} (h0:Small R₀ s.fixed) (hx:R₀.Ext R) (h:rk R st a w) (hp:s.prj st=some x):
 ∃ R',R₀.Ext R'/\rk R' (s.inj x) a w:=by
 unfold Shape.prj at hp
 dsimp only at hp
 cases hb:s.EP st (s.bd st)&&Nat.beq st.tm.length s.n
 ·rw [hb] at hp;cases hp
 ·rw [hb] at hp
  rw [Bool.and_eq_true] at hb
  obtain ⟨h1,h2⟩:=bx hp
  have hlen:=Nat.eq_of_beq_eq_true hb.2
  refine ⟨R.named (R.frozen w (oI s.lists (s.bd st))) R.U (s.bd st) (dD s.chunks x.2),⟨λb o h'=>Je h.mem _ b o (hx.F b o h'),hx.U,λc ch hc=> ?_⟩,rfl,IE hb.1 h2 h.hp h.mem (Je h.mem _) (MO w _) (λn c ch L k1 k2 k3 k4=>⟨YX h.mem k2 k4 k3 (GC k1),((dw h.mem k2 k4).1 k3).2⟩) (Q2 h.mem _) h.mem.U (ajS h.mem _) h.mem.env,?_,h.defers⟩
  ·obtain ⟨hlt,hep⟩:=h0 c ch hc
   have hok:=hb.1
   unfold Shape.EP at hok
   simp only [Bool.and_eq_true,List.all_eq_true] at hok
   have h3:=hok.2 c (by simpa using hlt)
   obtain ⟨ch1,g1,g2,g3⟩:=hx.ch c ch hc
   split at h3
   ·rename_i c' hbd
    have h4:=(Bool.and_eq_true _ _▸h3:_/\_)
    have:=Nat.eq_of_beq_eq_true h4.1
    subst this
    have hnow:xw (s.bd st) st.hp c' c' 0=true:=by
     unfold xw
     rw [hbd]
     exact h3
    obtain ⟨b,b',k1,k2,k3,k4⟩:=Iz (R:=R) hb.1 h2 hnow
    rw [h.hp,k1] at g1
    cases g1
    exact ⟨_,k2,g2,λhe=>⟨by have:=(g3 he).1;exact k3.trans this,k4.trans (g3 he).2⟩⟩
   ·cases h3
   ·rename_i hbd
    obtain ⟨q,hq,hq'⟩:=List.any_eq_true.1 h3
    rw [Bool.and_eq_true] at hq'
    have e1:=Nat.eq_of_beq_eq_true hq'.1
    obtain ⟨ch2,hch2⟩:=oC (x:=x.2) (n:=c) ⟨q.2,by rw [<-e1];exact hq⟩
    obtain ⟨cs,y,k1,k2,k3⟩:=dL h2 hch2
    have hg:cs=.gone:=by
     simp only [iU,hbd] at k2
     cases cs<;>first|rfl|(simp [CG] at k2;done)
    subst hg
    refine ⟨ch2,hch2,?_,λhe=> ?_⟩
    ·rw [k3,hep];exact Nat.zero_le _
    ·rw [k3,hep] at he;cases he
  ·refine kx hb.1 h2 h.hp h.mem (Je h.mem _) (MO w _) h.tm h1 (SV.wj ?_ λi hi hi'=> ?_)
   ·rw [List.length_replicate,<-hlen]
    exact SV.aP h.tm
   ·simp [SV.rel]
end Sx
end Go.Proofs.YtohjofabochgfaaGreat

namespace Go.Proofs.YtohjofabochgfaaGreat
namespace Sx
open Go
def ae6 (id:Nat):SE->SE
 |.exit j=>cond (Nat.beq j id) .normal (.exit j)
 |e=>e
theorem Shape.Iy {s:Shape} {R₀ R:Ctx} {st:St} {a:Act} {w:World} {k:s.T->Prop} (h0:Small R₀ s.fixed) (hx:R₀.Ext R) (h:rk R st a w) (hp:s.on st k):
 ∃ x R',k x/\R₀.Ext R'/\rk R' (s.inj x) a w:=by
 unfold Shape.on at hp
 split at hp
 ·rename_i x hq
  obtain ⟨R',h1,h2⟩:=Shape.arO h0 hx h hq
  exact ⟨x,R',hp,h1,h2⟩
 ·exact hp.elim
section
variable {P:Program} {te:TE} {Φ:Env} (hte:kN P te) (hΦ:aW P Φ) (hany:bc P te Φ)
include hte hΦ hany
end
def W4:List (Nat×Code)->Nat->Code
 | [],_=>.skip
 |(i,c)::r,id=>cond (Nat.beq i id) c (W4 r id)
def W3 (c:Code) (id:Nat):Code:=W4 (blocks c) id
def bL (c:Code) (id:Nat):Code:=match W3 c id with
 |.loop b=>b
 |c=>c
def aee (c:Code) (id:Nat):Bool:=match W3 c id with
 |.loop _=>true
 |_=>false
theorem QT {c:Code} {id:Nat} (h:aee c id=true):W3 c id=.loop (bL c id):=by
 unfold aee at h
 unfold bL
 split at h
 ·rename_i b hb
  rw [hb]
 ·cases h
theorem G6:∀ {l:List (Nat×Code)},distinct (l.map (·.1))=true->∀ p ∈ l,W4 l p.1=p.2
 | [],_,p,hp=>by cases hp
 |q::r,h,p,hp=>by
  simp only [List.map_cons,distinct,Bool.and_eq_true,Bool.not_eq_true'] at h
  simp only [W4]
  rcases List.mem_cons.1 hp with he|he
  ·subst he
   rw [Nat.beq_refl];rfl
  ·have:Nat.beq q.1 p.1=false:=by
    cases hq:Nat.beq q.1 p.1
    ·rfl
    ·have:=h.1
     rw [List.any_eq_false] at this
     exact absurd hq (this p.1 (List.mem_map.2 ⟨p,he,rfl⟩))
   rw [this]
   exact G6 h.2 p he
def bn (id:Nat) (l:St->(SE->St->Prop)->Prop) (Λ:Lam):Lam:=λj=>cond (Nat.beq j id) (some l) (Λ j)
def az:Lam:=λ_=>none
theorem ag {P:Program} {R₀:Ctx} {c:Code}:DJ P R₀ az c:=λ_ _ _ h=>by cases h
theorem aH {P:Program} {R₀:Ctx} {c:Code} (hd:distinct ((blocks c).map (·.1))=true) {id:Nat} {l:St->(SE->St->Prop)->Prop} {Λ:Lam} (hl:aee c id=true) (h:Kq P R₀ (.block id (.loop (bL c id))) l) (hΛ:DJ P R₀ Λ c):
 DJ P R₀ (bn id l Λ) c:=λp hp l' hl'=>by
 unfold bn at hl'
 cases hb:Nat.beq p.1 id
 ·rw [hb] at hl';exact hΛ p hp l' hl'
 ·rw [hb] at hl'
  cases hl'
  have e:=Nat.eq_of_beq_eq_true hb
  have:=G6 hd p hp
  rw [<-this,e]
  have h2:=QT hl
  unfold W3 at h2
  rw [h2]
  exact h
end Sx
end Go.Proofs.YtohjofabochgfaaGreat

namespace Go.Proofs.YtohjofabochgfaaGreat
namespace Sx
open Go
abbrev Nm:=Nat->Nat×Nat
def xz (ν:Nm):(s:Sh)->s.T->List SV
 |.val _ t,x=>unpack t x
 |.own n,_=> [.own (ν n).1 (ν n).2]
 |.ptr n i off,_=> [.ptr (ν n).1 (ν n).2 i off]
 |.fn f ns,_=> [.fn (.func f) [] (ns.map λn=>.ptr (ν n).1 (ν n).2 0 0)]
 |.ifp t n,_=> [.iface t (.ptr (ν n).1 (ν n).2 0 0)]
 |.nq,_=> [.nq]
 |.dA,_=> [.dA]
 |.undef,_=> [.undef]
def I8 (ν:Nm) (s:Sh) (x:s.T):SV:=nB s.agg (xz ν s x)
def lQ (ν:Nm):(l:List Sh)->ShT l->List SV
 | [],_=> []
 |s::r,x=>xz ν s x.1++lQ ν r x.2
def dr (ν:Nm):(s:CSh)->s.T->Chunk
 |.row t,xs=>.row t xs
 |.frz t,xs=>.frz t xs
 |.cells l,x=>.cells (lQ ν l x)
 |.gone,_=>.row .u8 []
structure ax where
 rs:List Sh
 chunks:List (Nat×CSh)
 pan:Bool
def indexed:Nat->List Sh->List (Nat×Sh)
 |_,[]=> []
 |i,s::r=>(i,s)::indexed (i+1) r
def ax.shape (o:ax) (fixed:Nat):Shape:=⟨o.rs.length,indexed 0 o.rs,o.chunks,fixed,true⟩
def acd (n:Nat) (v:SV):List SV:=cond (Nat.beq n 1) [v] (match v with
 |.tup l=>l
 |_=>List.replicate (n+1) .bB)
structure aq where
 as:List Sh
 chunks:List (Nat×CSh)
 bD:Bool
 fixed:Nat
 mod:Bool
def aq.inp (S:aq):Shape:=⟨S.as.length,indexed 0 S.as,S.chunks,0,S.bD⟩
abbrev aq.T (S:aq):Type:=S.inp.T
abbrev aq.Y (S:aq):Type:=Sigma λo:ax=>(o.shape S.fixed).T
def WJ (hp:Hp) (c:Nat):Nat:=match hp c with
 |some ch=>ch.ep
 |none=>0
def nameOf (bd:Bd) (n:Nat):Nat:=match cU bd n with
 |some (some c)=>c
 |_=>0
def aq.nm (S:aq) (bd:Bd) (hp:Hp) (base:Nat):Nm:=λn=>cond (Nat.blt n S.fixed) (nameOf bd n,WJ hp (nameOf bd n)) (base+(n-S.fixed),0)
def jn (ν:Nm):(l:List (Nat×CSh))->EO l->List (Nat×Ch)
 | [],_=> []
 |c::r,x=>((ν c.1).1,⟨(ν c.1).2,dr ν c.2 x.1⟩)::jn ν r x.2
def cO (bd:Bd) (hp:Hp) (fixed:Nat):List (Nat×CSh)->List (Nat×Ch)
 | []=> []
 |c::r=>cond (Nat.blt c.1 fixed) (cO bd hp fixed r) (match cU bd c.1 with
  |some (some o)=>(o,⟨WJ hp o+1,.row .u8 []⟩)::cO bd hp fixed r
  |_=>cO bd hp fixed r)
def Ty.cF:Ty->Bool
 |.list _=>true
 |.prod a b=>a.cF||b.cF
 |.arr _ t=>t.cF
 |_=>false
def Sh.cF:Sh->Bool
 |.val _ t=>t.cF
 |_=>false
def CSh.cF:CSh->Bool
 |.row t=>t.cF
 |.frz t=>t.cF
 |.cells l=>l.any Sh.cF
 |.gone=>false
def CSh.MB:CSh->Bool
 |.frz _=>true
 |_=>false
def aq.sA (S:aq) (bd:Bd) (hp:Hp) (base:Nat) (o:ax):Bool:=
 (!S.bD|| !(o.rs.any Sh.cF||o.chunks.any λc=>c.2.cF||(c.2.MB&& !Nat.blt c.1 S.fixed)))&&
 ((List.range S.fixed).all (λk=>(match cU bd k with
   |some (some _)=>true
   |_=>false)&&o.chunks.any λc=>Nat.beq c.1 k)&&
 ((o.chunks.all λc=>S.chunks.all λc'=> !Nat.beq c.1 c'.1|| !Nat.blt c.1 S.fixed||(c.2.MB==c'.2.MB))&&
 o.chunks.all λc=> !c.2.uE&&(Nat.blt c.1 S.fixed||(Nat.blt (c.1-S.fixed) 64&&(hp (base+(c.1-S.fixed))).isNone))))
def aq.emit (S:aq) (bd:Bd) (d:Nat) (hp:Hp) (o:ax) (y:(o.shape S.fixed).T):OT Out:=
 let base:=fresh hp d
 let ν:=S.nm bd hp base
 let v:=oneOf ((indexedN ν o.rs) y.1)
 let u:=cO bd hp S.fixed S.chunks++jn ν o.chunks y.2
 .guard (S.sA bd hp base o) (.ok (cond o.pan (.pan v u) (.ret ⟨v,u⟩)))
where
 indexedN (ν:Nm) (rs:List Sh):SlT (indexed 0 rs)->List SV:=go ν 0 rs
 go (ν:Nm):(i:Nat)->(rs:List Sh)->SlT (indexed i rs)->List SV
  |_,[],_=> []
  |i,s::r,y=>I8 ν s y.1::go ν (i+1) r y.2
def aq.aI (S:aq) (pre:S.T->Bool) (F:S.T->OT S.Y):cN:=⟨S.mod,λd args hp=>
 match S.inp.prj ⟨args,hp⟩ with
 |none=>.fail
 |some x=>.guard (pre x) ((F x).bind λoy=>S.emit (S.inp.bd ⟨args,hp⟩) d hp oy.1 oy.2)⟩
def ax.is {fixed:Nat} (o:ax) (y:(o.shape fixed).T) (pan:Bool) (v:SV) (hp:Hp):Prop:=
 o.pan=pan/\(o.shape fixed).prj ⟨acd o.rs.length v,hp⟩=some y
end Sx
end Go.Proofs.YtohjofabochgfaaGreat

namespace Go.Proofs.YtohjofabochgfaaGreat
namespace Sx
open Go
def Ctx.uW (R:Ctx) (bd:Bd) (b:Nat):Prop:=∃ n c ch L,cU bd n=some (some c)/\R.hp c=some ch/\ch.body.mut=true/\R.σ c=some L/\L.block=b
open Classical in
noncomputable def Ctx.y9 (R:Ctx) (bd:Bd) (bD:Bool) (w:World):Nat->Option Obj:=λb=>
 if R.uW bd b then none else if bD=true then w.heap[b]? else R.F b
open Classical in
noncomputable def Ctx.E4 (R:Ctx) (bd:Bd) (bD:Bool) (w:World):Oa:=⟨λb=>
 if R.uW bd b\/bD=true\/(∃ o,R.F b=some o) then none else w.heap[b]?,R.U.env⟩
section
variable {R:Ctx} {w:World} (hm:dg R w) {bd:Bd} {bD:Bool}
include hm
theorem xR {b:Nat} (h:R.uW bd b):R.F b=none/\R.U b=none:=by
 obtain ⟨n,c,ch,L,h1,h2,h3,h4,rfl⟩:=h
 exact (dw hm h2 h4).1 h3
theorem ME:∀ b o,R.F b=some o->R.y9 bd bD w b=some o:=λb o h=>by
 unfold Ctx.y9
 split
 ·rename_i hb
  rw [(xR hm hb).1] at h
  cases h
 ·split
  ·exact hm.F b o h
  ·exact h
theorem MD:∀ b o,R.y9 bd bD w b=some o->w.heap[b]? =some o:=λb o h=>by
 unfold Ctx.y9 at h
 split at h
 ·cases h
 ·split at h
  ·exact h
  ·exact hm.F b o h
theorem I7:∀ c ch L,oI bD bd c=true->R.hp c=some ch->R.σ c=some L->R.y9 bd bD w L.block=w.heap[L.block]? :=λc ch L h1 h2 h3=>by
 have hb:bD=true:=by
  unfold oI at h1
  rw [Bool.and_eq_true] at h1
  exact h1.1
 unfold Ctx.y9
 split
 ·rename_i hq
  obtain ⟨n,c',ch',L',k1,k2,k3,k4,k5⟩:=hq
  cases hmu:ch.body.mut
  ·obtain ⟨o,ho⟩:=(dw hm h2 h3).2 hmu
   rw [<-k5,((dw hm k2 k4).1 k3).1] at ho
   cases ho
  ·have:=hm.apart c' c ch' ch L' L k2 h2 k3 hmu k4 h3 k5
   rw [this] at k1
   rw [GC k1] at h1
   cases h1
 ·first|rfl|rw [if_pos hb]
omit hm in
theorem MC:∀ b o,R.E4 bd bD w b=some o->w.heap[b]? =some o:=λb o h=>by
 unfold Ctx.E4 at h
 dsimp only at h
 split at h
 ·cases h
 ·exact h
omit hm in
theorem ak6:∀ b o,R.y9 bd bD w b=some o->R.E4 bd bD w b=none:=λb o h=>by
 unfold Ctx.E4
 dsimp only
 split
 ·rfl
 ·rename_i hq
  unfold Ctx.y9 at h
  rw [if_neg (λhb=>hq (.inl hb)),if_neg (λhb=>hq (.inr (.inl hb)))] at h
  exact absurd (.inr (.inr ⟨o,h⟩)) hq
omit hm in
theorem aei:∀ n c ch L,cU bd n=some (some c)->R.hp c=some ch->ch.body.mut=true->R.σ c=some L->R.y9 bd bD w L.block=none/\R.E4 bd bD w L.block=none:=λn c ch L h1 h2 h3 h4=>by
 have hb:R.uW bd L.block:=⟨n,c,ch,L,h1,h2,h3,h4,rfl⟩
 exact ⟨by unfold Ctx.y9;rw [if_pos hb],by unfold Ctx.E4;dsimp only;rw [if_pos (.inl hb)]⟩
theorem stays {F₂:Nat->Option Obj} {U₂:Oa} {w':World} (hF:∀ b o,R.y9 bd bD w b=some o->F₂ b=some o) (hU:U₂=R.E4 bd bD w) (h1:∀ b o,F₂ b=some o->w'.heap[b]? =some o) (h2:∀ b o,U₂ b=some o->w'.heap[b]? =some o):
 ∀ b,b<w.heap.size->¬R.uW bd b->w'.heap[b]? =w.heap[b]? :=λb hb hn=>by
 have hs:w.heap[b]? =some w.heap[b]:=by simp [hb]
 by_cases hbo:bD=true
 ·have:R.y9 bd bD w b=some w.heap[b]:=by
   unfold Ctx.y9
   rw [if_neg hn,if_pos hbo,hs]
  rw [h1 _ _ (hF _ _ this),hs]
 ·by_cases hRF:∃ o,R.F b=some o
  ·obtain ⟨o,ho⟩:=hRF
   have:=hm.F b o ho
   rw [h1 _ _ (hF _ _ (ME hm b o ho)),this]
  ·have:R.E4 bd bD w b=some w.heap[b]:=by
    unfold Ctx.E4
    dsimp only
    rw [if_neg (by rintro (h|h|h);exact hn h;exact hbo h;exact hRF h),hs]
   rw [<-hU] at this
   rw [h2 _ _ this,hs]
end
end Sx
end Go.Proofs.YtohjofabochgfaaGreat

namespace Go.Proofs.YtohjofabochgfaaGreat
namespace Sx
open Go
structure J5 (N R:Ctx) (ν:Nm) (lists:Bool):Prop where
 hp:∀ n ch,N.hp n=some ch->ch.ep=0/\∃ ch',R.hp (ν n).1=some ch'/\ch'.ep=(ν n).2/\ch'.body.shape=ch.body.shape/\R.σ (ν n).1=N.σ n
 F:lists=true->∀ b o,N.F b=some o->R.F b=some o
theorem qJ {F F':Nat->Option Obj}:∀ (t:Ty) (_:t.cF=false) (x:t.T) (cs:List Value),Rep F t x cs->Rep F' t x cs
 |.bool,_,_,_,h=>h
 |.u64,_,_,_,h=>h
 |.u8,_,_,_,h=>h
 |.int,_,_,_,h=>h
 |.str,_,_,_,h=>h
 |.elem,_,_,_,h=>h
 |.prod a b,hp,x,cs,h=>by
  simp only [Ty.cF,Bool.or_eq_false_iff] at hp
  exact ⟨h.1,qJ a hp.1 _ _ h.2.1,qJ b hp.2 _ _ h.2.2⟩
 |.arr n t,hp,x,cs,h=>⟨h.1,h.2.1,λi hi=>qJ t hp _ _ (h.2.2 i hi)⟩
def SV.still:SV->Bool
 |.bool _|.u64 _|.u8 _|.int _|.str _|.lst .. =>true
 |_=>false
theorem KH {R R':Ctx} (hF:∀ b o,R.F b=some o->R'.F b=some o):∀ {x:SV} {v:Value},x.still=true->SV.rel R x v->SV.rel R' x v:=by
 intro x v hf h
 cases x<;>first|(cases hf;done)|(simp only [SV.rel] at h⊢;first|exact h|exact bW hF _ _ _ h)
theorem Fp {R R':Ctx} (hF:∀ b o,R.F b=some o->R'.F b=some o):∀ {l:List SV} {vs:List Value},l.all SV.still=true->SV.bM R l vs->SV.bM R' l vs
 | [],vs,_,h=>by simpa only [SV.bM] using h
 |x::l,vs,hf,h=>by
  simp only [List.all_cons,Bool.and_eq_true] at hf
  simp only [SV.bM] at h⊢
  obtain ⟨v,r,h1,h2,h3⟩:=h
  exact ⟨v,r,h1,KH hF hf.1 h2,Fp hF hf.2 h3⟩
theorem io:∀ (t:Ty) (x:t.T),(unpack t x).all SV.still=true
 |.bool,_=>rfl
 |.u64,_=>rfl
 |.u8,_=>rfl
 |.int,_=>rfl
 |.str,_=>rfl
 |.elem,_=>rfl
 |.prod a b,x=>by simp only [unpack,List.all_append,io a,io b,Bool.and_self]
 |.arr n t,x=>by
  simp only [unpack,List.all_flatMap,List.all_eq_true]
  intro i _
  simpa [List.all_eq_true] using io t _
 |.list t,_=>rfl
theorem eM:∀ {t:Ty},t.cF=false->t.plain=true
 |.bool,_=>rfl
 |.u64,_=>rfl
 |.u8,_=>rfl
 |.int,_=>rfl
 |.str,_=>rfl
 |.elem,_=>rfl
 |.prod a b,h=>by
  simp only [Ty.cF,Bool.or_eq_false_iff] at h
  simp only [Ty.plain,eM h.1,eM h.2,Bool.and_self]
 |.arr n t,h=>eM (t:=t) h
section
variable {N R:Ctx} {ν:Nm} {lists:Bool} (hr:J5 N R ν lists)
include hr
theorem Qn {n:Nat} {v:Value} (h:N.own n 0 v):R.own (ν n).1 (ν n).2 v:=by
 obtain ⟨ch,hc,_,h⟩:=h
 obtain ⟨he,ch',k1,k2,k3,k4⟩:=hr.hp n ch hc
 obtain ⟨ch2,hc2,_,h2⟩:=h he.symm
 rw [hc] at hc2
 cases hc2
 obtain ⟨h5,h6,ad,cap,h7,h8,h9⟩:=h2 he.symm
 refine ⟨ch',k1,by omega,λ_=>⟨ch',k1,by omega,λ_=> ?_⟩⟩
 rw [k4,k3]
 exact ⟨h5,h6,ad,cap,h7,h8,h9⟩
theorem rS {n i off:Nat} {v:Value} (h:N.ptr n 0 i off v):R.ptr (ν n).1 (ν n).2 i off v:=by
 obtain ⟨ch,hc,_,h⟩:=h
 obtain ⟨he,ch',k1,k2,k3,k4⟩:=hr.hp n ch hc
 obtain ⟨L,h1,h2⟩:=h he.symm
 exact ⟨ch',k1,by omega,λ_=>⟨L,by rw [k4];exact h1,by rw [k3];exact h2⟩⟩
theorem yQ:∀ (ns:List Nat) (us:List Value),SV.bM N (ns.map λn=>.ptr n 0 0 0) us->SV.bM R (ns.map λn=>.ptr (ν n).1 (ν n).2 0 0) us
 | [],us,h=>h
 |n::ns,us,h=>by
  simp only [List.map_cons,SV.bM,SV.rel] at h⊢
  obtain ⟨v,us',rfl,h1,h2⟩:=h
  exact ⟨v,us',rfl,⟨h1.1,rS hr h1.2⟩,yQ ns us' h2⟩
theorem EQ {t:Ty} (hl:lists=true\/t.cF=false) {x:t.T} {us:List Value} (h:SV.bM N (unpack t x) us):SV.bM R (unpack t x) us:=by
 rcases hl with hl|hl
 ·exact Fp (hr.F hl) (io t x) h
 ·exact M3 (jp t (eM hl) x) h
theorem r9 {s:Sh} (hl:lists=true\/s.cF=false) {y:s.T} {us:List Value} (h:SV.bM N (oB s y) us):SV.bM R (xz ν s y) us:=by
 cases s<;>simp only [oB,xz] at h⊢
 case val b t=>exact EQ hr hl h
 case own n=>
  obtain ⟨v,rfl,hv⟩:=cm h
  simp only [SV.rel] at hv
  exact aX (by simp only [SV.rel];exact ⟨hv.1,Qn hr hv.2⟩)
 case ptr n i off=>
  obtain ⟨v,rfl,hv⟩:=cm h
  simp only [SV.rel] at hv
  exact aX (by simp only [SV.rel];exact ⟨hv.1,rS hr hv.2⟩)
 case fn f ns=>
  obtain ⟨v,rfl,hv⟩:=cm h
  simp only [SV.rel] at hv
  obtain ⟨l1,l2,rfl,h3,h4⟩:=hv
  exact aX (by simp only [SV.rel];exact ⟨l1,l2,rfl,by simpa only [SV.bM] using h3,yQ hr ns l2 h4⟩)
 case ifp t n=>
  obtain ⟨v,rfl,hv⟩:=cm h
  simp only [SV.rel] at hv
  obtain ⟨y,rfl,hy⟩:=hv
  exact aX (by simp only [SV.rel];exact ⟨y,rfl,hy.1,rS hr hy.2⟩)
 all_goals (
  obtain ⟨v,rfl,hv⟩:=cm h
  simp only [SV.rel] at hv
  exact aX (by simp only [SV.rel];exact hv))
omit hr in
theorem E5 {s:Sh} {y:s.T}:(xz ν s y).length=(oB s y).length:=by
 cases s<;>rfl
theorem KK {s:Sh} (hl:lists=true\/s.cF=false) {y:s.T} {v:Value} (h:SV.rel N (oA s y) v):SV.rel R (I8 ν s y) v:=by
 unfold oA at h
 unfold I8
 unfold nB at h⊢
 cases ha:s.agg<;>rw [ha] at h
 ·simp only [Bool.false_eq_true,if_false] at h⊢
  cases s
  case val b t=>
   simp only [oB,xz] at h⊢
   cases hc:unpack t y with
   |nil=>simp [SV.rel]
   |cons u l=>
    rw [hc] at h
    rcases hl with hl|hl
    ·have:=io t y
     rw [hc] at this
     simp only [List.all_cons,Bool.and_eq_true] at this
     exact KH (hr.F hl) this.1 h
    ·have:=jp t (eM hl) y
     rw [hc] at this
     simp only [List.all_cons,Bool.and_eq_true] at this
     exact Wr this.1 h
  all_goals (
   have h1:=r9 (y:=y) hr hl (aX h)
   obtain ⟨v',he,hv⟩:=cm h1
   cases he
   exact hv)
 ·simp only [if_true,SV.rel] at h⊢
  obtain ⟨vs,h1,h2,h3⟩:=h
  exact ⟨vs,h1,r9 hr hl h2,h3⟩
end
end Sx
end Go.Proofs.YtohjofabochgfaaGreat

namespace Go.Proofs.YtohjofabochgfaaGreat
namespace Sx
open Go
theorem OT.run_bind {α β:Type} {f:α->OT β}:∀ {t:OT α} {b:β},(t.bind f).run=some b->∃ a,t.run=some a/\(f a).run=some b
 |.ok a,b,h=>⟨a,rfl,h⟩
 |.br c x y,b,h=>by
  cases c
  ·exact OT.run_bind (t:=y) h
  ·exact OT.run_bind (t:=x) h
 |.fail,b,h=>by cases h
theorem n9 {m:Nat}:∀ (u:List (Nat×Ch)) {hp:Hp},m ∈ bj u->∃ ch,(m,ch) ∈ u/\fG hp u m=some ch
 | [],_,h=>by simp [bj] at h
 |(c,ch)::r,hp,h=>by
  by_cases h2:m ∈ bj r
  ·obtain ⟨ch',h3,h4⟩:=n9 r (hp:=λn=>if n=c then some ch else hp n) h2
   exact ⟨ch',by simp [h3],h4⟩
  ·have h1:m=c:=by
    simp only [bj,List.map_cons,List.mem_cons] at h
    exact h.resolve_right h2
   subst h1
   refine ⟨ch,by simp,?_⟩
   simp only [fG]
   rw [dm r h2]
   simp
theorem tk {ν:Nm} {bd:Bd} {ok:Nat->Bool} {hp:Hp}:∀ {l:List (Nat×CSh)} {x:EO l} {c:Nat} {ch:Ch},dH bd ok hp l=some x->(c,ch) ∈ jn ν l x->
 ∃ n s y,(n,s) ∈ l/\c=(ν n).1/\iU bd ok hp n s=some y/\ch=⟨(ν n).2,dr ν s y⟩
 | [],_,_,_,_,h=>by cases h
 |q::r,x,c,ch,hp,h=>by
  obtain ⟨h1,h2⟩:=bx hp
  simp only [jn,List.mem_cons] at h
  rcases h with h|h
  ·cases h
   exact ⟨q.1,q.2,x.1,by simp,rfl,h1,rfl⟩
  ·obtain ⟨n,s,y,k1,k2⟩:=tk h2 h
   exact ⟨n,s,y,by simp [k1],k2⟩
theorem mq {ν:Nm}:∀ {l:List (Nat×CSh)} {x:EO l} {c:Nat},c ∈ bj (jn ν l x) ↔ ∃ n s,(n,s) ∈ l/\c=(ν n).1
 | [],_,_=>by simp [jn,bj]
 |q::r,x,c=>by
  have ih:=mq (ν:=ν) (l:=r) (x:=x.2) (c:=c)
  unfold bj at ih⊢
  simp only [jn,List.map_cons,List.mem_cons]
  constructor
  ·rintro (h|h)
   ·exact ⟨q.1,q.2,.inl rfl,h⟩
   ·obtain ⟨n,s,h1,h2⟩:=ih.1 h
    exact ⟨n,s,.inr h1,h2⟩
  ·rintro ⟨n,s,h1|h1,h2⟩
   ·left;rw [<-h1] at*;exact h2
   ·exact .inr (ih.2 ⟨n,s,h1,h2⟩)
theorem jo {bd:Bd} {hp:Hp} {fixed:Nat}:∀ {l:List (Nat×CSh)} {c:Nat} {ch:Ch},(c,ch) ∈ cO bd hp fixed l->(∃ n,cU bd n=some (some c)/\fixed<=n)/\ch=⟨WJ hp c+1,.row .u8 []⟩
 | [],_,_,h=>by cases h
 |q::r,c,ch,h=>by
  simp only [cO] at h
  cases hb:Nat.blt q.1 fixed
  ·rw [hb] at h
   simp only [cond_false] at h
   split at h
   ·rename_i o ho
    simp only [List.mem_cons] at h
    rcases h with h|h
    ·cases h
     have:¬q.1<fixed:=λhlt=>by rw [NN hlt] at hb;cases hb
     exact ⟨⟨q.1,ho,by omega⟩,rfl⟩
    ·exact jo h
   ·exact jo h
  ·rw [hb] at h
   exact jo (by simpa using h)
theorem A1 {bd:Bd} {hp:Hp} {fixed:Nat}:∀ {l:List (Nat×CSh)} {n c:Nat} {s:CSh},(n,s) ∈ l->cU bd n=some (some c)->fixed<=n->c ∈ bj (cO bd hp fixed l)
 | [],_,_,_,h,_,_=>by cases h
 |q::r,n,c,s,h,hb,hn=>by
  simp only [cO]
  rcases List.mem_cons.1 h with h|h
  ·subst h
   have:Nat.blt n fixed=false:=by
    cases hq:Nat.blt n fixed
    ·rfl
    ·have:=cJ hq;omega
   unfold bj
   simp only [this,cond_false,hb,List.map_cons,List.mem_cons]
   exact .inl trivial
  ·have ih:=A1 (hp:=hp) h hb hn
   cases Nat.blt q.1 fixed
   ·simp only [cond_false]
    split
    ·unfold bj at ih⊢
     simp only [List.map_cons,List.mem_cons]
     exact .inr ih
    ·exact ih
   ·exact ih
theorem fK:∀ (u v:List (Nat×Ch)) {hp:Hp},fG hp (u++v)=fG (fG hp u) v
 | [],_,_=>rfl
 |(c,ch)::r,v,hp=>fK r v
theorem ad2 {u:List (Nat×Ch)} {c:Nat} {ch:Ch} (h:(c,ch) ∈ u):c ∈ bj u:=List.mem_map.2 ⟨_,h,rfl⟩
theorem gF:∀ {l:List (Nat×CSh)},distinct (l.map (·.1))=true->∀ {n:Nat} {s s':CSh},(n,s) ∈ l->(n,s') ∈ l->s=s'
 | [],_,_,_,_,h,_=>by cases h
 |q::r,hd,n,s,s',h,h'=>by
  simp only [List.map_cons,distinct,Bool.and_eq_true,Bool.not_eq_true'] at hd
  have no:∀ s,(n,s) ∈ r->q.1≠n:=λs hs e=>by
   have:=hd.1
   rw [List.any_eq_false] at this
   exact this n (List.mem_map.2 ⟨_,hs,rfl⟩) (by rw [e];exact Nat.beq_refl n)
  rcases List.mem_cons.1 h with h|h<;>rcases List.mem_cons.1 h' with h'|h'
  ·rw [<-h'] at h;cases h;rfl
  ·exact absurd (by rw [<-h]) (no s' h')
  ·exact absurd (by rw [<-h']) (no s h)
  ·exact gF hd.2 h h'
theorem iL {ν:Nm}:∀ {l:List Sh} {x:ShT l},(lQ ν l x).length=(jd l x).length
 | [],_=>rfl
 |s::r,x=>by simp only [lQ,jd,List.length_append,E5,iL]
theorem oD {ν:Nm} {s:CSh} {y:s.T}:(dr ν s y).shape=(bC s y).shape:=by
 cases s<;>simp only [dr,bC,Chunk.shape]
 case cells l=>
  have:=iL (ν:=ν) (l:=l) (x:=y)
  rw [this]
theorem jc {ν:Nm} {s:CSh} {y:s.T}:(dr ν s y).mut=(bC s y).mut:=by
 cases s<;>rfl
theorem MF {s:CSh} {y:s.T}:(bC s y).mut= !s.MB:=by
 cases s<;>rfl
end Sx
end Go.Proofs.YtohjofabochgfaaGreat

namespace Go.Proofs.YtohjofabochgfaaGreat
namespace Sx
open Go
section
variable {R:Ctx} {w w':World} {S:aq} {args:List SV} {bd:Bd} {xc:EO S.chunks} {N N2:Ctx} {o:ax} {yc:EO o.chunks} {base:Nat}
def Ctx.aqV (N:Ctx) (k:Nat):Ctx:= {N with hp:=λn=>cond (Nat.blt n k) (N.hp n) none}
structure tc (R:Ctx) (w w':World) (S:aq) (args:List SV) (bd:Bd) (xc:EO S.chunks) (N2:Ctx) (o:ax) (yc:EO o.chunks) (base:Nat):Prop where
 hm:dg R w
 ok:S.inp.EP ⟨args,R.hp⟩ bd=true
 hx:dH bd (oI S.bD bd) R.hp S.chunks=some xc
 ext:((R.named (R.y9 bd S.bD w) (R.E4 bd S.bD w) bd (dD S.chunks xc)).aqV S.fixed).Ext N2
 hm2:dg N2 w'
 hp2:N2.hp=dD o.chunks yc
 aq1:∃ bd2 ok2 hp2,dH bd2 ok2 hp2 o.chunks=some yc
 aoH:distinct (o.chunks.map (·.1))=true
 sA:S.sA bd R.hp base o=true
open Classical in
noncomputable def Ctx.gR (R:Ctx) (bd:Bd) (w:World) (N2:Ctx):Nat->Option Obj:=λb=>
 if b<w.heap.size/\¬R.uW bd b then R.F b else N2.F b
open Classical in
noncomputable def Ctx.du (R:Ctx) (bd:Bd) (w:World) (S:aq) (N2:Ctx) (o:ax) (yc:EO o.chunks) (base:Nat):Ctx:=
 ⟨R.gR bd w N2,R.U,λc=>match o.chunks.find? (λq=>Nat.beq (S.nm bd R.hp base q.1).1 c) with
  |some q=>N2.σ q.1
  |none=>if c ∈ bj (cO bd R.hp S.fixed S.chunks) then none else R.σ c,
  fG R.hp (cO bd R.hp S.fixed S.chunks++jn (S.nm bd R.hp base) o.chunks yc)⟩
variable (H:tc R w w' S args bd xc N2 o yc base)
include H
theorem tc.inF:∀ b o',R.y9 bd S.bD w b=some o'->N2.F b=some o':=λb o' h=>H.ext.F b o' h
theorem tc.inU:N2.U=R.E4 bd S.bD w:=H.ext.U
theorem tc.old:∀ b,b<w.heap.size->¬R.uW bd b->w'.heap[b]? =w.heap[b]? :=
 stays H.hm H.inF H.inU H.hm2.F H.hm2.U
theorem aqS {b:Nat} {o':Obj} (h:R.F b=some o'):b<w.heap.size/\¬R.uW bd b:=
 ⟨(Array.getElem?_eq_some_iff.1 (H.hm.F b o' h)).1,λhb=>by rw [(xR H.hm hb).1] at h;cases h⟩
theorem u9:∀ b o',R.F b=some o'->R.gR bd w N2 b=some o':=λb o' h=>by
 unfold Ctx.gR
 rw [if_pos (aqS H h)]
 exact h
theorem DG:∀ b o',R.gR bd w N2 b=some o'->w'.heap[b]? =some o':=λb o' h=>by
 unfold Ctx.gR at h
 split at h
 ·rename_i hb
  rw [H.old b hb.1 hb.2];exact H.hm.F b o' h
 ·exact H.hm2.F b o' h
theorem DH (hb:S.bD=false):∀ b o',N2.F b=some o'->R.gR bd w N2 b=some o':=λb o' h=>by
 unfold Ctx.gR
 split
 ·rename_i hq
  cases hR:R.F b with
  |some o2=>
   have h1:=H.hm.F b o2 hR
   rw [<-H.old b hq.1 hq.2,H.hm2.F b o' h] at h1
   exact h1.symm
  |none=>
   exfalso
   have h2:=H.hm2.FU b o' h
   rw [H.inU] at h2
   unfold Ctx.E4 at h2
   dsimp only at h2
   rw [if_neg (by rintro (h|h|⟨o2,h⟩);exact hq.2 h;rw [hb] at h;cases h;rw [hR] at h;cases h)] at h2
   simp [hq.1] at h2
 ·exact h
theorem DF {b:Nat} (hF:N2.F b=none) (hU:N2.U b=none):R.F b=none/\R.U b=none/\R.gR bd w N2 b=none/\(w.heap.size<=b\/R.uW bd b):=by
 by_cases hb:b<w.heap.size
 ·have hs:w.heap[b]? =some w.heap[b]:=by simp [hb]
  have hbd:R.uW bd b:=Classical.byContradiction λhn=>by
   have h1:R.y9 bd S.bD w b=none:=by
    cases hq:R.y9 bd S.bD w b with
    |none=>rfl
    |some o'=>rw [H.inF b o' hq] at hF;cases hF
   rw [H.inU] at hU
   unfold Ctx.E4 at hU
   dsimp only at hU
   unfold Ctx.y9 at h1
   rw [if_neg hn] at h1
   by_cases hbo:S.bD=true
   ·rw [if_pos hbo,hs] at h1;cases h1
   ·rw [if_neg hbo] at h1
    rw [if_neg (by rintro (h|h|⟨o2,h⟩);exact hn h;exact hbo h;rw [h1] at h;cases h),hs] at hU
    cases hU
  refine ⟨(xR H.hm hbd).1,(xR H.hm hbd).2,?_,.inr hbd⟩
  unfold Ctx.gR
  rw [if_neg (λh=>h.2 hbd)]
  exact hF
 ·refine ⟨?_,?_,?_,.inl (by omega)⟩
  ·cases hR:R.F b with
   |none=>rfl
   |some o'=>exact absurd (aqS H hR).1 hb
  ·cases hR:R.U b with
   |none=>rfl
   |some o'=>exact absurd (Array.getElem?_eq_some_iff.1 (H.hm.U b o' hR)).1 hb
  ·unfold Ctx.gR
   rw [if_neg (λh=>hb h.1)]
   exact hF
theorem mX:S.bD=false\/(o.rs.any Sh.cF=false/\∀ q ∈ o.chunks,q.2.cF=false/\(q.2.MB=true->q.1<S.fixed)):=by
 have h:=H.sA
 unfold aq.sA at h
 simp only [Bool.and_eq_true] at h
 have h1:=h.1
 cases hb:S.bD
 ·exact .inl rfl
 ·right
  rw [hb] at h1
  simp only [Bool.not_true,Bool.false_or,Bool.not_eq_true',Bool.or_eq_false_iff] at h1
  refine ⟨h1.1,λq hq=> ?_⟩
  have h2:=List.any_eq_false.1 h1.2 q hq
  simp only [Bool.or_eq_true,Bool.and_eq_true,Bool.not_eq_true',not_or,not_and] at h2
  refine ⟨by simpa using h2.1,λhf=> ?_⟩
  have:=h2.2 hf
  exact cJ (by simpa using this)
theorem Dl {k:Nat} (hk:k<S.fixed):(∃ c,cU bd k=some (some c))/\∃ s,(k,s) ∈ o.chunks:=by
 have h:=H.sA
 unfold aq.sA at h
 simp only [Bool.and_eq_true,List.all_eq_true] at h
 have h1:=h.2.1 k (by simpa using hk)
 constructor
 ·have h2:=h1.1
  split at h2
  ·rename_i c hc;exact ⟨c,hc⟩
  ·cases h2
 ·obtain ⟨q,hq,he⟩:=List.any_eq_true.1 h1.2
  have:=Nat.eq_of_beq_eq_true he
  subst this
  exact ⟨q.2,hq⟩
theorem afa {q:Nat×CSh} (hq:q ∈ o.chunks) {q':Nat×CSh} (hq':q' ∈ S.chunks) (he:q.1=q'.1) (hf:q.1<S.fixed):q.2.MB=q'.2.MB:=by
 have h:=H.sA
 unfold aq.sA at h
 simp only [Bool.and_eq_true,List.all_eq_true] at h
 have h1:=h.2.2.1 q hq q' hq'
 simp only [he,Nat.beq_refl,Bool.not_true,Bool.false_or] at h1
 rw [he] at hf
 rw [NN hf] at h1
 simpa using h1
theorem oY {q:Nat×CSh} (hq:q ∈ o.chunks):q.2.uE=false/\(q.1<S.fixed\/(q.1-S.fixed<64/\R.hp (base+(q.1-S.fixed))=none)):=by
 have h:=H.sA
 unfold aq.sA at h
 simp only [Bool.and_eq_true,List.all_eq_true] at h
 have h1:=h.2.2.2 q hq
 simp only [Bool.or_eq_true,Bool.and_eq_true,Bool.not_eq_true'] at h1
 refine ⟨h1.1,?_⟩
 rcases h1.2 with h2|h2
 ·exact .inl (cJ h2)
 ·refine .inr ⟨cJ h2.1,?_⟩
  have:=h2.2
  cases hq:R.hp (base+(q.1-S.fixed)) with
  |none=>rfl
  |some c=>rw [hq] at this;cases this
end
end Sx
end Go.Proofs.YtohjofabochgfaaGreat

namespace Go.Proofs.YtohjofabochgfaaGreat
namespace Sx
open Go
section
variable {R:Ctx} {w w':World} {S:aq} {args:List SV} {bd:Bd} {xc:EO S.chunks} {N N2:Ctx} {o:ax} {yc:EO o.chunks} {base:Nat}
variable (H:tc R w w' S args bd xc N2 o yc base)
include H
theorem Gf {n:Nat} {s:CSh} (h:(n,s) ∈ o.chunks):∃ y:s.T,N2.hp n=some ⟨0,bC s y⟩/\((S.nm bd R.hp base n).1,(⟨(S.nm bd R.hp base n).2,dr (S.nm bd R.hp base) s y⟩:Ch)) ∈ jn (S.nm bd R.hp base) o.chunks yc:=by
 obtain ⟨bd2,ok2,hp2,hp⟩:=H.aq1
 obtain ⟨ch,hch⟩:=oC (x:=yc) (n:=n) ⟨s,h⟩
 obtain ⟨s',y,h1,h2,h3⟩:=dL hp hch
 obtain rfl:=gF H.aoH h h1
 have hg:=(oY H h).1
 have hep:s.ep=0:=by cases s<;>first|rfl|(cases hg;done)
 refine ⟨y,by rw [H.hp2,hch,h3,hep],?_⟩
 have:∀ {l:List (Nat×CSh)} {x:EO l},dH bd2 ok2 hp2 l=some x->(n,s) ∈ l->((S.nm bd R.hp base n).1,(⟨(S.nm bd R.hp base n).2,dr (S.nm bd R.hp base) s y⟩:Ch)) ∈ jn (S.nm bd R.hp base) l x:=by
  intro l
  induction l with
  |nil=>intro x _ hm;cases hm
  |cons q r ih=>
   intro x hp hm
   obtain ⟨p1,p2⟩:=bx hp
   simp only [jn,List.mem_cons]
   rcases List.mem_cons.1 hm with he|he
   ·subst he
    left
    have:x.1=y:=by
     have:=p1.symm.trans h2
     exact Option.some.inj this
    rw [this]
   ·exact .inr (ih p2 he)
 exact this hp h
theorem Xr {c:Nat} {ch:Ch} (h:(c,ch) ∈ jn (S.nm bd R.hp base) o.chunks yc):∃ n s,∃ y:s.T,(n,s) ∈ o.chunks/\c=(S.nm bd R.hp base n).1/\N2.hp n=some ⟨0,bC s y⟩/\ch=⟨(S.nm bd R.hp base n).2,dr (S.nm bd R.hp base) s y⟩:=by
 obtain ⟨bd2,ok2,hp2,hp⟩:=H.aq1
 obtain ⟨n,s,y,h1,h2,h3,h4⟩:=tk hp h
 refine ⟨n,s,y,h1,h2,?_,h4⟩
 obtain ⟨ch,hch⟩:=oC (x:=yc) (n:=n) ⟨s,h1⟩
 obtain ⟨s',y',k1,k2,k3⟩:=dL hp hch
 obtain rfl:=gF H.aoH h1 k1
 have:y=y':=Option.some.inj (h3.symm.trans k2)
 subst this
 have hg:=(oY H h1).1
 have hep:s.ep=0:=by cases s<;>first|rfl|(cases hg;done)
 rw [H.hp2,hch,k3,hep]
omit H in
theorem BW {n:Nat} (h:n<S.fixed):S.nm bd R.hp base n=(nameOf bd n,WJ R.hp (nameOf bd n)):=by
 unfold aq.nm;rw [NN h];rfl
omit H in
theorem ajo {n:Nat} (h:S.fixed<=n):S.nm bd R.hp base n=(base+(n-S.fixed),0):=by
 unfold aq.nm
 have:Nat.blt n S.fixed=false:=by
  cases hq:Nat.blt n S.fixed
  ·rfl
  ·have:=cJ hq;omega
 rw [this];rfl
theorem j6 {k:Nat} (hk:k<S.fixed):∃ c ch,∃ ch2:Ch,cU bd k=some (some c)/\nameOf bd k=c/\R.hp c=some ch/\WJ R.hp c=ch.ep/\N2.hp k=some ch2/\ch2.ep=0/\ch2.body.shape=ch.body.shape/\N2.σ k=R.σ c/\
 (∃ cs,(k,cs) ∈ S.chunks/\(!cs.MB)=ch.body.mut):=by
 obtain ⟨⟨c,hb⟩,s,hs⟩:=Dl H hk
 obtain ⟨cs,y,h1,h2⟩:=JY (s:=S.inp) (st:=⟨args,R.hp⟩) H.ok H.hx hb
 simp only [iU,hb] at h1
 split at h1
 ·rename_i ch hch
  obtain ⟨y2,g1,_⟩:=Gf H hs
  obtain ⟨ch2,e1,e2,e3⟩:=H.ext.ch k ⟨0,bC cs y⟩ (by
   show cond (Nat.blt k S.fixed) (dD S.chunks xc k) none=_
   rw [NN hk];exact h2)
  rw [g1] at e1
  cases e1
  have e4:=e3 rfl
  refine ⟨c,ch,_,hb,by simp only [nameOf,hb],hch,by simp only [WJ,show R.hp c=some ch from hch],g1,rfl,e4.1.trans (rc h1),?_,?_⟩
  ·rw [e4.2];simp only [Ctx.aqV,Ctx.named,hb]
  ·obtain ⟨s3,y3,k1,k2,k3⟩:=dL H.hx h2
   simp only [iU,hb,show R.hp c=some ch from hch] at k2
   refine ⟨s3,k1,?_⟩
   rw [<-yS k2,MF]
 ·cases h1
theorem ak0 {n m:Nat} {s s':CSh} (hn:(n,s) ∈ o.chunks) (hm:(m,s') ∈ o.chunks) (h:(S.nm bd R.hp base n).1=(S.nm bd R.hp base m).1):n=m:=by
 have half:∀ {a b:Nat} {t t':CSh},(a,t) ∈ o.chunks->(b,t') ∈ o.chunks->a<S.fixed->S.fixed<=b->(S.nm bd R.hp base a).1=(S.nm bd R.hp base b).1->False:=λ{a b t t'} h1 h2 h3 h4 h5=>by
  rw [BW h3,ajo h4] at h5
  obtain ⟨c,ch,_,g1,g2,g3,_⟩:=j6 H h3
  rcases (oY H h2).2 with hq|hq
  ·have:b<S.fixed:=hq
   omega
  ·simp only at h5
   rw [<-h5,g2,g3] at hq
   cases hq.2
 rcases Nat.lt_or_ge n S.fixed with h1|h1<;>rcases Nat.lt_or_ge m S.fixed with h2|h2
 ·rw [BW h1,BW h2] at h
  obtain ⟨c,_,_,g1,g2,_⟩:=j6 H h1
  obtain ⟨c',_,_,g1',g2',_⟩:=j6 H h2
  have hcc:c=c':=by rw [<-g2,<-g2'];exact h
  have hok:=H.ok
  unfold Shape.EP at hok
  simp only [Bool.and_eq_true,List.all_eq_true,List.any_eq_true] at hok
  obtain ⟨p,hp,hpe⟩:=hok.1.2 _ (jk g1)
  obtain ⟨p',hp',hpe'⟩:=hok.1.2 _ (jk g1')
  have e1:=Nat.eq_of_beq_eq_true hpe
  have e2:=Nat.eq_of_beq_eq_true hpe'
  have h3:=hok.1.1.2 p hp p' hp'
  rw [e1,e2] at h3
  simp only at h3
  rw [g1,g1',hcc] at h3
  simp only [Nat.beq_refl,Bool.not_true,Bool.or_false] at h3
  exact Nat.eq_of_beq_eq_true h3
 ·exact (half hn hm h1 h2 h).elim
 ·exact (half hm hn h2 h1 h.symm).elim
 ·rw [ajo h1,ajo h2] at h
  simp only at h
  omega
theorem HQ {n:Nat} {s:CSh} (h:(n,s) ∈ o.chunks):(R.du bd w S N2 o yc base).σ (S.nm bd R.hp base n).1=N2.σ n:=by
 show (match o.chunks.find? (λq=>Nat.beq (S.nm bd R.hp base q.1).1 (S.nm bd R.hp base n).1) with|some q=>N2.σ q.1|none=>_)=_
 cases hf:o.chunks.find? (λq=>Nat.beq (S.nm bd R.hp base q.1).1 (S.nm bd R.hp base n).1) with
 |none=>
  have:=List.find?_eq_none.1 hf (n,s) h
  simp at this
 |some q=>
  have h1:=List.find?_some hf
  have h2:=List.mem_of_find?_eq_some hf
  have h3:q.1=n:=ak0 H (s:=q.2) (s':=s) h2 h (Nat.eq_of_beq_eq_true h1)
  simp only [h3]
omit H in
theorem KO {c:Nat} (h:c ∉ bj (jn (S.nm bd R.hp base) o.chunks yc)):(R.du bd w S N2 o yc base).σ c=(open Classical in if c ∈ bj (cO bd R.hp S.fixed S.chunks) then none else R.σ c):=by
 show (match o.chunks.find? (λq=>Nat.beq (S.nm bd R.hp base q.1).1 c) with|some q=>N2.σ q.1|none=>_)=_
 cases hf:o.chunks.find? (λq=>Nat.beq (S.nm bd R.hp base q.1).1 c) with
 |none=>rfl
 |some q=>
  exfalso
  have h1:=Nat.eq_of_beq_eq_true (List.find?_some (p:=λq:Nat×CSh=>Nat.beq (S.nm bd R.hp base q.1).1 c) hf)
  have h2:=List.mem_of_find?_eq_some hf
  exact h (mq.2 ⟨q.1,q.2,h2,h1.symm⟩)
theorem Ja {c:Nat} {ch:Ch} (h:(R.du bd w S N2 o yc base).hp c=some ch):
 (∃ n s,∃ y:s.T,(n,s) ∈ o.chunks/\c=(S.nm bd R.hp base n).1/\N2.hp n=some ⟨0,bC s y⟩/\ch=⟨(S.nm bd R.hp base n).2,dr (S.nm bd R.hp base) s y⟩/\(R.du bd w S N2 o yc base).σ c=N2.σ n)\/
 (ch=⟨WJ R.hp c+1,.row .u8 []⟩/\(R.du bd w S N2 o yc base).σ c=none)\/
 (c ∉ bj (jn (S.nm bd R.hp base) o.chunks yc)/\c ∉ bj (cO bd R.hp S.fixed S.chunks)/\R.hp c=some ch/\(R.du bd w S N2 o yc base).σ c=R.σ c):=by
 have hh:fG (fG R.hp (cO bd R.hp S.fixed S.chunks)) (jn (S.nm bd R.hp base) o.chunks yc) c=some ch:=by
  rw [<-fK];exact h
 by_cases h1:c ∈ bj (jn (S.nm bd R.hp base) o.chunks yc)
 ·obtain ⟨ch',h2,h3⟩:=n9 _ (hp:=fG R.hp (cO bd R.hp S.fixed S.chunks)) h1
  rw [h3] at hh
  cases hh
  obtain ⟨n,s,y,k1,k2,k3,k4⟩:=Xr H h2
  exact .inl ⟨n,s,y,k1,k2,k3,k4,by rw [k2];exact HQ H k1⟩
 ·rw [dm _ h1] at hh
  have hs:=KO (w:=w) (N2:=N2) h1
  by_cases h2:c ∈ bj (cO bd R.hp S.fixed S.chunks)
  ·obtain ⟨ch',h3,h4⟩:=n9 _ (hp:=R.hp) h2
   rw [h4] at hh
   cases hh
   rw [if_pos h2] at hs
   exact .inr (.inl ⟨(jo h3).2,hs⟩)
  ·rw [dm _ h2] at hh
   rw [if_neg h2] at hs
   exact .inr (.inr ⟨h1,h2,hh,hs⟩)
theorem Xq {c:Nat} {ch ch':Ch} (h:(c,ch) ∈ jn (S.nm bd R.hp base) o.chunks yc) (h':(c,ch') ∈ jn (S.nm bd R.hp base) o.chunks yc):ch=ch':=by
 obtain ⟨bd2,ok2,hp2,hp⟩:=H.aq1
 obtain ⟨n,s,y,a1,a2,a3,a4⟩:=tk hp h
 obtain ⟨n',s',y',b1,b2,b3,b4⟩:=tk hp h'
 have e1:=ak0 H a1 b1 (a2.symm.trans b2)
 subst e1
 obtain rfl:=gF H.aoH a1 b1
 have e2:y=y':=Option.some.inj (a3.symm.trans b3)
 rw [a4,b4,e2]
theorem aqa {n:Nat} {s:CSh} (h:(n,s) ∈ o.chunks):∃ y:s.T,N2.hp n=some ⟨0,bC s y⟩/\(R.du bd w S N2 o yc base).hp (S.nm bd R.hp base n).1=some ⟨(S.nm bd R.hp base n).2,dr (S.nm bd R.hp base) s y⟩:=by
 obtain ⟨y,h1,h2⟩:=Gf H h
 refine ⟨y,h1,?_⟩
 obtain ⟨ch',h3,h4⟩:=n9 _ (hp:=fG R.hp (cO bd R.hp S.fixed S.chunks)) (ad2 h2)
 have e:=Xq H h2 h3
 rw [e,<-h4]
 show fG R.hp (_++_) _=_
 rw [fK]
theorem acf:J5 N2 (R.du bd w S N2 o yc base) (S.nm bd R.hp base) (!S.bD):=by
 refine ⟨λn ch h=> ?_,λh b o' hb=>DH H (by simpa using h) b o' hb⟩
 rw [H.hp2] at h
 obtain ⟨bd2,ok2,hp2,hp⟩:=H.aq1
 obtain ⟨s,y,h1,_,_⟩:=dL hp h
 obtain ⟨y',k1,k2⟩:=aqa H h1
 rw [H.hp2,h] at k1
 cases k1
 exact ⟨rfl,_,k2,rfl,oD,HQ H h1⟩
theorem Gg {c:Nat} {ch:Ch} {L:Loc} (h1:c ∉ bj (jn (S.nm bd R.hp base) o.chunks yc)) (h2:c ∉ bj (cO bd R.hp S.fixed S.chunks)) (hc:R.hp c=some ch) (hm:ch.body.mut=true) (hL:R.σ c=some L):¬R.uW bd L.block:=by
 rintro ⟨n,c',ch',L',k1,k2,k3,k4,k5⟩
 have:=H.hm.apart c' c ch' ch L' L k2 hc k3 hm k4 hL k5
 subst this
 rcases Nat.lt_or_ge n S.fixed with hn|hn
 ·obtain ⟨_,s,hs⟩:=Dl H hn
  refine h1 (mq.2 ⟨n,s,hs,?_⟩)
  rw [BW hn]
  simp only [nameOf,k1]
 ·have hok:=H.ok
  unfold Shape.EP at hok
  simp only [Bool.and_eq_true,List.all_eq_true,List.any_eq_true] at hok
  obtain ⟨p,hp,hpe⟩:=hok.1.2 _ (jk k1)
  have e1:p.1=n:=Nat.eq_of_beq_eq_true hpe
  subst e1
  exact h2 (A1 (s:=p.2) hp k1 hn)
end
end Sx
end Go.Proofs.YtohjofabochgfaaGreat

namespace Go.Proofs.YtohjofabochgfaaGreat
namespace Sx
open Go
theorem uU {N R:Ctx} {ν:Nm} {lists:Bool} (hr:J5 N R ν lists):∀ {l:List Sh} (_:lists=true\/l.any Sh.cF=false) {x:ShT l} {us:List Value},SV.bM N (jd l x) us->SV.bM R (lQ ν l x) us
 | [],_,_,_,h=>h
 |s::r,hl,x,us,h=>by
  have h1:lists=true\/s.cF=false:=hl.imp_right λe=>by simp only [List.any_cons,Bool.or_eq_false_iff] at e;exact e.1
  have h2:lists=true\/r.any Sh.cF=false:=hl.imp_right λe=>by simp only [List.any_cons,Bool.or_eq_false_iff] at e;exact e.2
  simp only [jd] at h
  simp only [lQ]
  have hlen:=SV.aP h
  have t1:=SV.dV h (oB s x.1).length
  have t2:=SV.dW h (oB s x.1).length
  rw [List.take_left] at t1
  rw [List.drop_left] at t2
  have:=SV.cD (r9 hr h1 t1) (uU hr h2 t2)
  rwa [List.take_append_drop] at this
section
variable {R:Ctx} {w w':World} {S:aq} {args:List SV} {bd:Bd} {xc:EO S.chunks} {N N2:Ctx} {o:ax} {yc:EO o.chunks} {base:Nat}
variable (H:tc R w w' S args bd xc N2 o yc base)
include H
theorem WZ:R.Ext (R.du bd w S N2 o yc base):=by
 refine ⟨u9 H,rfl,λc ch hc=> ?_⟩
 by_cases h1:c ∈ bj (jn (S.nm bd R.hp base) o.chunks yc)
 ·obtain ⟨n,s,hs,rfl⟩:=mq.1 h1
  obtain ⟨y,k1,k2⟩:=aqa H hs
  refine ⟨_,k2,?_⟩
  rcases Nat.lt_or_ge n S.fixed with hn|hn
  ·obtain ⟨c',ch',ch2,g1,g2,g3,g4,g5,g6,g7,g8,_⟩:=j6 H hn
   have hσ:=HQ H hs
   rw [BW hn] at hc hσ⊢
   simp only [g2] at hc hσ⊢
   rw [g3] at hc
   cases hc
   rw [k1] at g5
   cases g5
   refine ⟨by rw [g4];exact Nat.le_refl _,λ_=>⟨?_,?_⟩⟩
   ·simp only [oD];exact g7
   ·rw [hσ,g8]
  ·exfalso
   rcases (oY H hs).2 with hq|hq
   ·have:n<S.fixed:=hq
    omega
   ·rw [ajo hn] at hc
    have h2:R.hp (base+(n-S.fixed))=none:=hq.2
    rw [h2] at hc
    cases hc
 ·by_cases h2:c ∈ bj (cO bd R.hp S.fixed S.chunks)
  ·obtain ⟨ch',h3,h4⟩:=n9 _ (hp:=R.hp) h2
   refine ⟨ch',?_,?_⟩
   ·show fG R.hp (_++_) c=_
    rw [fK,dm _ h1,h4]
   ·rw [(jo h3).2]
    have:WJ R.hp c=ch.ep:=by simp only [WJ,hc]
    rw [this]
    exact ⟨Nat.le_succ _,λe=>absurd e (by simp)⟩
  ·refine ⟨ch,?_,Nat.le_refl _,λ_=>⟨rfl,?_⟩⟩
   ·show fG R.hp (_++_) c=_
    rw [fK,dm _ h1,dm _ h2,hc]
   ·rw [KO h1,if_neg h2]
theorem ace {s:CSh} {n:Nat} (h:(n,s) ∈ o.chunks) (t:Ty) (ht:s=.row t\/s=.frz t):∀ (x:t.T) (cs:List Value),Rep N2.F t x cs->Rep (R.gR bd w N2) t x cs:=λx cs hr=>by
 rcases mX H with hb|⟨_,hq⟩
 ·exact bW (DH H hb) _ _ _ hr
 ·have:=(hq _ h).1
  refine qJ t ?_ x cs hr
  rcases ht with rfl|rfl<;>exact this
theorem ajK {s:CSh} {n:Nat} (h:(n,s) ∈ o.chunks):(!S.bD)=true\/s.cF=false:=by
 rcases mX H with hb|⟨_,hq⟩
 ·exact .inl (by rw [hb];rfl)
 ·exact .inr (hq _ h).1
theorem Ry {n:Nat} {s:CSh} {y:s.T} (hs:(n,s) ∈ o.chunks) (hn:N2.hp n=some ⟨0,bC s y⟩) {e:Nat} {c:Nat} (hσ:(R.du bd w S N2 o yc base).σ c=N2.σ n) (hc:c=(S.nm bd R.hp base n).1):
 fg (R.du bd w S N2 o yc base) w' c ⟨e,dr (S.nm bd R.hp base) s y⟩:=by
 have h0:=H.hm2.ch n _ hn
 have hrep:=ace H hs
 have hgone:=(oY H hs).1
 cases s with
 |row t=>
  simp only [fg,bC,dr] at h0⊢
  rw [hσ]
  refine ⟨h0.1,h0.2.1,?_⟩
  cases hL:N2.σ n with
  |none=>have:=h0.2.2;rw [hL] at this;exact this
  |some L=>
   have:=h0.2.2
   rw [hL] at this
   obtain ⟨c1,c2,arr,E,c3,c4,c5,c6⟩:=this
   obtain ⟨_,d2,d3,_⟩:=DF H c1 c2
   exact ⟨d3,d2,arr,E,c3,c4,c5,λi hi=>hrep t (.inl rfl) _ _ (c6 i hi)⟩
 |frz t=>
  simp only [fg,bC,dr] at h0⊢
  rw [hσ]
  refine ⟨h0.1,h0.2.1,?_⟩
  cases hL:N2.σ n with
  |none=>have:=h0.2.2;rw [hL] at this;exact this
  |some L=>
   have:=h0.2.2
   rw [hL] at this
   obtain ⟨arr,E,fz,c3,c4,c5,c6⟩:=this
   refine ⟨arr,E,fz,?_,c4,c5,λi hi=>hrep t (.inr rfl) _ _ (c6 i hi)⟩
   show R.gR bd w N2 L.block=_
   rcases mX H with hb|⟨_,hq⟩
   ·exact DH H hb _ _ c3
   ·have hf:n<S.fixed:=(hq _ hs).2 rfl
    obtain ⟨c',ch',ch2,g1,g2,g3,g4,g5,g6,g7,g8,cs,g9,g10⟩:=j6 H hf
    have hfz:=afa H hs g9 rfl hf
    have hmu:ch'.body.mut=false:=by rw [<-g10,<-hfz];rfl
    obtain ⟨o',ho⟩:=(dw H.hm g3 (by rw [<-g8];exact hL)).2 hmu
    have h1:=u9 H _ _ ho
    have h2:=DG H _ _ h1
    rw [H.hm2.F _ _ c3] at h2
    cases h2
    exact h1
 |cells l=>
  simp only [fg,bC,dr] at h0⊢
  obtain ⟨L,h1,h2,h3,arr,E,h4,h5,h6,h7,h8⟩:=h0
  obtain ⟨_,d2,d3,_⟩:=DF H h2 h3
  refine ⟨L,by rw [hσ];exact h1,d3,d2,arr,E,h4,h5,h6.trans (iL (l:=l) (x:=y)).symm,uU (acf H) ?_ h7,h8⟩
  exact ajK H hs
 |gone=>cases hgone
theorem akn:dg (R.du bd w S N2 o yc base) w':=by
 refine ⟨DG H,λb o' h=> ?_,λc ch hc=> ?_,λc c' ch ch' L L' h1 h2 m1 m2 s1 s2 hb=> ?_,λb o' h=> ?_,by have h2:=H.hm2.env;rw [H.inU] at h2;exact h2⟩
 ·have h1:=H.hm.U b o' h
  have hlt:=(Array.getElem?_eq_some_iff.1 h1).1
  replace h:R.U b=some o':=h
  rw [H.old b hlt (λhq=>by rw [(xR H.hm hq).2] at h;cases h)]
  exact h1
 ·rcases Ja H hc with ⟨n,s,y,k1,k2,k3,rfl,k5⟩|⟨rfl,k2⟩|⟨k1,k2,k3,k4⟩
  ·exact Ry H k1 k3 k5 k2
  ·simp only [fg]
   rw [k2]
   exact ⟨by decide,by simp,trivial⟩
  ·have h0:=H.hm.ch c ch k3
   have hfree:∀ L,ch.body.mut=true->R.σ c=some L->¬R.uW bd L.block:=λL hm hL=>Gg H k1 k2 k3 hm hL
   obtain ⟨ep,body⟩:=ch
   cases body with
   |row t xs=>
    simp only [fg] at h0⊢
    rw [k4]
    refine ⟨h0.1,h0.2.1,?_⟩
    cases hL:R.σ c with
    |none=>have:=h0.2.2;rw [hL] at this;exact this
    |some L=>
     have:=h0.2.2
     rw [hL] at this
     obtain ⟨c1,c2,arr,E,c3,c4,c5,c6⟩:=this
     have hlt:=(Array.getElem?_eq_some_iff.1 c3).1
     have hf:=hfree L rfl hL
     refine ⟨?_,c2,arr,E,(H.old _ hlt hf).trans c3,c4,c5,λi hi=>bW (u9 H) _ _ _ (c6 i hi)⟩
     show R.gR bd w N2 L.block=none
     unfold Ctx.gR
     rw [if_pos ⟨hlt,hf⟩]
     exact c1
   |frz t xs=>
    simp only [fg] at h0⊢
    rw [k4]
    refine ⟨h0.1,h0.2.1,?_⟩
    cases hL:R.σ c with
    |none=>have:=h0.2.2;rw [hL] at this;exact this
    |some L=>
     have:=h0.2.2
     rw [hL] at this
     obtain ⟨arr,E,fz,c3,c4,c5,c6⟩:=this
     exact ⟨arr,E,fz,u9 H _ _ c3,c4,c5,λi hi=>bW (u9 H) _ _ _ (c6 i hi)⟩
   |cells vs=>
    simp only [fg] at h0⊢
    obtain ⟨L,hL,c1,c2,arr,E,c3,c4,c5,c6,c7⟩:=h0
    have hlt:=(Array.getElem?_eq_some_iff.1 c3).1
    have hf:=hfree L rfl hL
    refine ⟨L,k4.trans hL,?_,c2,arr,E,(H.old _ hlt hf).trans c3,c4,c5,SV.e9 (WZ H) _ _ c6,c7⟩
    show R.gR bd w N2 L.block=none
    unfold Ctx.gR
    rw [if_pos ⟨hlt,hf⟩]
    exact c1
 ·have inn:∀ (n:Nat) (s:CSh) (y:s.T) (L:Loc),N2.hp n=some ⟨0,bC s y⟩->(bC s y).mut=true->N2.σ n=some L->w.heap.size<=L.block\/R.uW bd L.block:=λn s y L a1 a2 a3=>by
   have:=(dw H.hm2 a1 a3).1 a2
   exact (DF H this.1 this.2).2.2.2
  have out:∀ (c:Nat) (ch:Ch) (L:Loc),c ∉ bj (jn (S.nm bd R.hp base) o.chunks yc)->c ∉ bj (cO bd R.hp S.fixed S.chunks)->R.hp c=some ch->ch.body.mut=true->R.σ c=some L->L.block<w.heap.size/\¬R.uW bd L.block:=λc ch L a1 a2 a3 a4 a5=>by
   refine ⟨?_,Gg H a1 a2 a3 a4 a5⟩
   have h0:=H.hm.ch c ch a3
   obtain ⟨ep,body⟩:=ch
   cases body with
   |row t xs=>
    simp only [fg,a5] at h0
    obtain ⟨_,_,_,_,arr,E,c3,_⟩:=h0
    exact (Array.getElem?_eq_some_iff.1 c3).1
   |frz t xs=>cases a4
   |cells vs=>
    simp only [fg] at h0
    obtain ⟨L',hL,_,_,arr,E,c3,_⟩:=h0
    rw [a5] at hL
    cases hL
    exact (Array.getElem?_eq_some_iff.1 c3).1
  rcases Ja H h1 with ⟨n,s,y,k1,k2,k3,rfl,k5⟩|⟨rfl,k2⟩|⟨k1,k2,k3,k4⟩<;>
   rcases Ja H h2 with ⟨n',s',y',k1',k2',k3',rfl,k5'⟩|⟨rfl,k2'⟩|⟨k1',k2',k3',k4'⟩
  ·rw [k5] at s1
   rw [k5'] at s2
   have a1:(bC s y).mut=true:=by rw [<-jc];exact m1
   have a2:(bC s' y').mut=true:=by rw [<-jc];exact m2
   have:=H.hm2.apart n n' _ _ L L' k3 k3' a1 a2 s1 s2 hb
   rw [k2,k2',this]
  ·rw [k2'] at s2;cases s2
  ·rw [k5] at s1
   rw [k4'] at s2
   have a1:(bC s y).mut=true:=by rw [<-jc];exact m1
   have h3:=inn n s y L k3 a1 s1
   have h4:=out c' ch' L' k1' k2' k3' m2 s2
   rw [hb] at h3
   rcases h3 with h3|h3
   ·omega
   ·exact absurd h3 h4.2
  ·rw [k2] at s1;cases s1
  ·rw [k2] at s1;cases s1
  ·rw [k2] at s1;cases s1
  ·rw [k5'] at s2
   rw [k4] at s1
   have a1:(bC s' y').mut=true:=by rw [<-jc];exact m2
   have h3:=inn n' s' y' L' k3' a1 s2
   have h4:=out c ch L k1 k2 k3 m1 s1
   rw [<-hb] at h3
   rcases h3 with h3|h3
   ·omega
   ·exact absurd h3 h4.2
  ·rw [k2'] at s2;cases s2
  ·rw [k4] at s1
   rw [k4'] at s2
   exact H.hm.apart c c' ch ch' L L' k3 k3' m1 m2 s1 s2 hb
 ·replace h:R.gR bd w N2 b=some o':=h
  show R.U b=none
  unfold Ctx.gR at h
  split at h
  ·exact H.hm.FU b o' h
  ·rename_i hq
   cases hU:R.U b with
   |none=>rfl
   |some o2=>
    have hlt:=(Array.getElem?_eq_some_iff.1 (H.hm.U b o2 hU)).1
    refine absurd ⟨hlt,λhbd=> ?_⟩ hq
    rw [(xR H.hm hbd).2] at hU
    cases hU
theorem ZW:eD R (R.du bd w S N2 o yc base) w' (cO bd R.hp S.fixed S.chunks++jn (S.nm bd R.hp base) o.chunks yc):=
 ⟨WZ H,rfl,akn H⟩
end
end Sx
end Go.Proofs.YtohjofabochgfaaGreat

namespace Go.Proofs.YtohjofabochgfaaGreat
namespace Sx
open Go
theorem j3:∀ {l:List (Nat×Sh)} {x:SlT l} {tm:List SV},(eG l x tm).length=tm.length
 | [],_,_=>rfl
 |c::r,x,tm=>by simp only [eG,j3,List.length_set]
theorem rf:∀ {rs:List Sh} {i j:Nat} {x:SlT (indexed j rs)} {tm:List SV},i<j->(eG (indexed j rs) x tm)[i]? =tm[i]?
 | [],_,_,_,_,_=>rfl
 |s::r,i,j,x,tm,h=>by
  simp only [indexed,eG]
  refine (rf (rs:=r) (i:=i) (j:=j+1) (x:=x.2) (by omega)).trans ?_
  rw [List.getElem?_set_ne (by omega)]
theorem nK {N R:Ctx} {ν:Nm} {lists:Bool} (hr:J5 N R ν lists):∀ {rs:List Sh} (_:lists=true\/rs.any Sh.cF=false) {i:Nat} {y:SlT (indexed i rs)} {tm:List SV} {us:List Value},tm.length=i+rs.length->
 SV.bM N (eG (indexed i rs) y tm) us->SV.bM R (aq.emit.go ν i rs y) (us.drop i)
 | [],_,i,y,tm,us,hl,h=>by
  have:=SV.aP h
  simp only [indexed,eG] at this
  simp only [List.length_nil] at hl
  simp only [aq.emit.go]
  rw [List.drop_eq_nil_of_le (by omega)]
  exact pH
 |s::r,hl',i,y,tm,us,hl,h=>by
  have h1:lists=true\/s.cF=false:=hl'.imp_right λe=>by simp only [List.any_cons,Bool.or_eq_false_iff] at e;exact e.1
  have h2:lists=true\/r.any Sh.cF=false:=hl'.imp_right λe=>by simp only [List.any_cons,Bool.or_eq_false_iff] at e;exact e.2
  simp only [List.length_cons] at hl
  have hlen:=SV.aP h
  rw [j3] at hlen
  have hi:i<us.length:=by omega
  have ih:=nK hr h2 (i:=i+1) (y:=y.2) (tm:=tm.set i (oA s y.1)) (us:=us) (by rw [List.length_set];omega) h
  have hi2:i<(eG (indexed i (s::r)) y tm).length:=by rw [j3];omega
  have hv:=SV.kr h i hi2 hi
  have hg:(eG (indexed i (s::r)) y tm)[i]=oA s y.1:=by
   have:(eG (indexed i (s::r)) y tm)[i]? =some (oA s y.1):=by
    simp only [indexed,eG]
    refine (rf (rs:=r) (i:=i) (j:=i+1) (x:=y.2) (by omega)).trans ?_
    rw [List.getElem?_set_self (by omega)]
   rw [List.getElem?_eq_getElem hi2] at this
   exact Option.some.inj this
  rw [hg] at hv
  simp only [aq.emit.go]
  rw [List.drop_eq_getElem_cons hi]
  simp only [SV.bM]
  exact ⟨_,_,rfl,KK hr h1 hv,ih⟩
theorem Dm {ν:Nm}:∀ {rs:List Sh} {i:Nat} {y:SlT (indexed i rs)},(aq.emit.go ν i rs y).length=rs.length
 | [],_,_=>rfl
 |s::r,i,y=>by simp only [aq.emit.go,List.length_cons,Dm]
theorem aiv {R:Ctx} {n:Nat} {x:SV} {v:Value} {l:List SV} (hv:SV.rel R x v) (hn:(acd n x).length=n) (hl:l.length=n):∃ us,SV.bM R (acd n x) us/\∀ R',SV.bM R' l us->SV.rel R' (oneOf l) v:=by
 unfold acd at hn⊢
 cases hb:Nat.beq n 1
 ·rw [hb] at hn
  simp only [cond_false] at hn⊢
  have hne:n≠1:=λe=>by subst e;cases hb
  cases x<;>simp only [List.length_replicate] at hn⊢ <;>try omega
  case tup q=>
   simp only [SV.rel] at hv
   obtain ⟨vs,rfl,h1⟩:=hv
   refine ⟨vs,h1,λR' h2=> ?_⟩
   cases l with
   |nil=>simp only [oneOf,SV.rel];exact ⟨vs,rfl,h2⟩
   |cons a l=>
    cases l with
    |nil=>simp at hl;omega
    |cons b l=>simp only [oneOf,SV.rel];exact ⟨vs,rfl,h2⟩
 ·have:=Nat.eq_of_beq_eq_true hb
  subst this
  simp only [cond_true]
  refine ⟨[v],aX hv,λR' h2=> ?_⟩
  cases l with
  |nil=>simp at hl
  |cons a l=>
   cases l with
   |nil=>
    simp only [oneOf]
    obtain ⟨v',e,h⟩:=cm h2
    cases e
    exact h
   |cons b l=>simp at hl
section
variable {P:Program} {te:TE} {Φ:Env} (hte:kN P te) (hΦ:aW P Φ) (hany:bc P te Φ)
theorem aeK {R N1:Ctx} {w w':World} {S:aq} {args:List SV} {x:S.T} {k d:Nat} (hm:dg R w) (hx:S.inp.prj ⟨args,R.hp⟩=some x)
 (hk:S.chunks.all (λc=>Nat.blt c.1 k&& !c.2.uE)=true)
 (h1:(R.named (R.y9 (S.inp.bd ⟨args,R.hp⟩) S.bD w) (R.E4 (S.inp.bd ⟨args,R.hp⟩) S.bD w) (S.inp.bd ⟨args,R.hp⟩) (dD S.chunks x.2)).Ext N1) (hm1:dg N1 w') {o:ax} {y:(o.shape S.fixed).T} {pan:Bool} {v:SV} {u:Value}
 (hv:SV.rel N1 v u) (hy:o.is y pan v N1.hp) (hend:S.sA (S.inp.bd ⟨args,R.hp⟩) R.hp (fresh R.hp d) o=true):
 ∃ R',eD R R' w' (cO (S.inp.bd ⟨args,R.hp⟩) R.hp S.fixed S.chunks++jn (S.nm (S.inp.bd ⟨args,R.hp⟩) R.hp (fresh R.hp d)) o.chunks y.2)/\
  SV.rel R' (oneOf (aq.emit.indexedN (S.nm (S.inp.bd ⟨args,R.hp⟩) R.hp (fresh R.hp d)) o.rs y.1)) u:=by
 obtain ⟨_,hy⟩:=hy
 unfold Shape.prj at hx
 dsimp only at hx
 generalize hbd:S.inp.bd ⟨args,R.hp⟩=bd at*
 cases hb:S.inp.EP ⟨args,R.hp⟩ bd&&Nat.beq args.length S.inp.n
 ·rw [hb] at hx;cases hx
 ·rw [hb] at hx
  rw [Bool.and_eq_true] at hb
  obtain ⟨hx1,hx2⟩:=bx hx
  have hy':=hy
  unfold Shape.prj at hy'
  dsimp only at hy'
  cases hb2:(o.shape S.fixed).EP ⟨acd o.rs.length v,N1.hp⟩ ((o.shape S.fixed).bd ⟨acd o.rs.length v,N1.hp⟩)&&Nat.beq (acd o.rs.length v).length (o.shape S.fixed).n
  ·rw [hb2] at hy';cases hy'
  ·rw [hb2] at hy'
   rw [Bool.and_eq_true] at hb2
   obtain ⟨hy1,hy2⟩:=bx hy'
   have hlen:(acd o.rs.length v).length=o.rs.length:=Nat.eq_of_beq_eq_true hb2.2
   obtain ⟨us,hus,hback⟩:=aiv (l:=aq.emit.indexedN (S.nm bd R.hp (fresh R.hp d)) o.rs y.1) hv hlen Dm
   have hsm:Small ((R.named (R.y9 bd S.bD w) (R.E4 bd S.bD w) bd (dD S.chunks x.2)).aqV S.fixed) (o.shape S.fixed).fixed:=λc ch hc=>by
    replace hc:cond (Nat.blt c S.fixed) (dD S.chunks x.2 c) none=some ch:=hc
    cases hq:Nat.blt c S.fixed
    ·rw [hq] at hc;cases hc
    ·rw [hq] at hc
     refine ⟨cJ hq,?_⟩
     obtain ⟨s,y',g1,g2,g3⟩:=dL hx2 (hc:dD S.chunks x.2 c=some ch)
     have:=(List.all_eq_true.1 hk) _ g1
     simp only [Bool.and_eq_true,Bool.not_eq_true'] at this
     rw [g3]
     cases s<;>first|rfl|(cases this.2;done)
   have hext:((R.named (R.y9 bd S.bD w) (R.E4 bd S.bD w) bd (dD S.chunks x.2)).aqV S.fixed).Ext N1:=⟨h1.F,h1.U,λc ch hc=>by
    replace hc:cond (Nat.blt c S.fixed) (dD S.chunks x.2 c) none=some ch:=hc
    cases hq:Nat.blt c S.fixed
    ·rw [hq] at hc;cases hc
    ·rw [hq] at hc
     exact h1.ch c ch hc⟩
   obtain ⟨N2,g1,g2⟩:=Shape.arO (s:=o.shape S.fixed) (a:= {tmps:=us.toArray,defers:= []}) hsm hext ⟨rfl,hm1,hus,rfl⟩ hy
   have hd2:distinct (o.chunks.map (·.1))=true:=by
    have:=hb2.1
    unfold Shape.EP at this
    simp only [Bool.and_eq_true] at this
    exact this.1.1.1
   have H:tc R w w' S args bd x.2 N2 o y.2 (fresh R.hp d):=⟨hm,hb.1,hx2,g1,g2.mem,g2.hp,⟨_,_,_,hy2⟩,hd2,hend⟩
   refine ⟨R.du bd w S N2 o y.2 (fresh R.hp d),ZW H,hback _ ?_⟩
   have ht:=g2.tm
   have:=nK (acf H) (rs:=o.rs) ?_ (i:=0) (y:=y.1) (tm:=List.replicate o.rs.length .bB) (us:=us) (by simp) ht
   ·exact this
   ·rcases mX H with h|h
    ·exact .inl (by rw [h];rfl)
    ·exact .inr h.1
include hte hΦ hany
theorem aqq {f:FuncId} {fn:Func} {c:Code} (hf:P.funcs[f]? =some fn) (hb:fn.body=some c) (hname:(fn.name== "runtime.NumGoroutine")=false) {S:aq} {k:Nat} (hk:S.chunks.all (λc=>Nat.blt c.1 k&& !c.2.uE)=true) {Λ:Lam}
 (hΛ:∀ R,Small R k->DJ P R Λ c) {n:Nat} {pre:S.T->Bool} {F:S.T->OT S.Y}
 (h:∀ x oy,pre x=true->(F x).run=some oy->∃ K Kp,wpf te Φ Λ n fn (S.inp.inj x).tm (S.inp.inj x).hp K Kp/\(∀ v hp,K v hp->oy.1.is oy.2 false v hp)/\∀ v hp,Kp v hp->oy.1.is oy.2 true v hp):ac P f (S.aI pre F):=by
 refine ⟨?_⟩
 intro R w d args vs out hm hr hrun
 refine .inl ⟨fn,hf,hname,by rw [hb];rfl,?_⟩
 simp only [aq.aI] at hrun
 split at hrun
 ·cases hrun
 ·rename_i x hx
  obtain ⟨hpre,h2⟩:=OT.aD hrun
  obtain ⟨oy,h3,h4⟩:=OT.run_bind h2
  unfold aq.emit at h4
  dsimp only at h4
  obtain ⟨hend,h5⟩:=OT.aD h4
  obtain ⟨K,Kp,hwp,hK1,hK2⟩:=h x oy hpre h3
  have hx':=hx
  unfold Shape.prj at hx'
  dsimp only at hx'
  cases hbo:S.inp.EP ⟨args,R.hp⟩ (S.inp.bd ⟨args,R.hp⟩)&&Nat.beq args.length S.inp.n
  ·rw [hbo] at hx';cases hx'
  ·rw [hbo] at hx'
   rw [Bool.and_eq_true] at hbo
   obtain ⟨hx1,hx2⟩:=bx hx'
   have hlen:args.length=S.inp.n:=Nat.eq_of_beq_eq_true hbo.2
   have hN:=IE (s:=S.inp) (st:=⟨args,R.hp⟩) (F':=R.y9 (S.inp.bd ⟨args,R.hp⟩) S.bD w) (U':=R.E4 (S.inp.bd ⟨args,R.hp⟩) S.bD w) hbo.1 hx2 rfl hm (ME hm) (I7 hm) aei (MD hm) MC ak6 hm.env
   have hargs:SV.bM (R.named (R.y9 (S.inp.bd ⟨args,R.hp⟩) S.bD w) (R.E4 (S.inp.bd ⟨args,R.hp⟩) S.bD w) (S.inp.bd ⟨args,R.hp⟩) (dD S.chunks x.2)) (S.inp.inj x).tm vs:=
    kx (s:=S.inp) (st:=⟨args,R.hp⟩) hbo.1 hx2 rfl hm (ME hm) (I7 hm) hr hx1 (SV.wj (by rw [List.length_replicate,<-hlen];exact SV.aP hr) λi hi hi'=>by simp [SV.rel])
   have hsm:Small (R.named (R.y9 (S.inp.bd ⟨args,R.hp⟩) S.bD w) (R.E4 (S.inp.bd ⟨args,R.hp⟩) S.bD w) (S.inp.bd ⟨args,R.hp⟩) (dD S.chunks x.2)) k:=λc ch hc=>by
    obtain ⟨s,y',g1,g2,g3⟩:=dL hx2 (hc:dD S.chunks x.2 c=some ch)
    have:=(List.all_eq_true.1 hk) _ g1
    simp only [Bool.and_eq_true,Bool.not_eq_true'] at this
    refine ⟨cJ this.1,?_⟩
    rw [g3]
    cases s<;>first|rfl|(cases this.2;done)
   refine (aaw hte hΦ hany hf hb (hΛ _ hsm) hN hargs hwp).mono λen w' hp=> ?_
   rcases hp with ⟨y,v,R₁,rfl,hx1,hm1,hv,hy⟩|⟨y,v,R₁,rfl,hx1,hm1,hv,hy⟩
   ·replace hy:=hK1 _ _ hy
    obtain ⟨R',a1,a2⟩:=aeK hm hx hk hx1 hm1 hv hy hend
    rw [hy.1] at h5
    cases h5
    exact ⟨v,R',rfl,a1,a2⟩
   ·replace hy:=hK2 _ _ hy
    obtain ⟨R',a1,a2⟩:=aeK hm hx hk hx1 hm1 hv hy hend
    rw [hy.1] at h5
    cases h5
    exact ⟨v,R',rfl,a1,a2⟩
end
end Sx
end Go.Proofs.YtohjofabochgfaaGreat

namespace Go.Proofs.YtohjofabochgfaaGreat
namespace Sx
open Go
theorem N3 {b:Bd} {n m:Nat} {o o':Option Nat} (h:cU b m=some o'):cU (RU b n o) m=some o':=by
 unfold RU
 split
 ·exact h
 ·rename_i hn
  simp only [cU]
  cases hb:Nat.beq n m
  ·exact h
  ·have:=Nat.eq_of_beq_eq_true hb
   subst this
   rw [h] at hn
   cases hn
theorem zg:∀ {ns:List Nat} {l:List SV} {b:Bd} {m:Nat} {o:Option Nat},cU b m=some o->cU (AL ns l b) m=some o
 | [],_,_,_,_,h=>h
 |n::ns,[],_,_,_,h=>h
 |n::ns,y::r,b,m,o,h=>by
  cases y<;>simp only [AL]<;>first|exact h|exact zg (N3 h)
theorem RR {s:Sh} {x:SV} {b:Bd} {m:Nat} {o:Option Nat} (h:cU b m=some o):cU (JW s x b) m=some o:=by
 unfold JW
 split<;>first|exact h|exact N3 h|exact zg h
theorem m6:∀ {l:List Sh} {cs:List SV} {b:Bd} {m:Nat} {o:Option Nat},cU b m=some o->cU (l8 l cs b) m=some o
 | [],_,_,_,_,h=>h
 |s::r,cs,b,m,o,h=>by
  simp only [l8]
  exact m6 (RR h)
theorem la {hp:Hp}:∀ {l:List (Nat×CSh)} {b:Bd} {m:Nat} {o:Option Nat},cU b m=some o->cU (eB hp l b) m=some o
 | [],_,_,_,h=>h
 |(n,s)::r,b,m,o,h=>by
  cases s<;>simp only [eB]
  case cells l=>
   refine la ?_
   split
   ·split
    ·exact m6 h
    ·exact h
   ·exact h
  all_goals exact la h
section
variable {d:Nat} {hp hp':Hp} (hg:Z8 d hp hp')
include hg
theorem iS:∀ {l:List (Nat×CSh)} {b:Bd},(∀ q ∈ l,∀ c,cU (eB hp l b) q.1=some (some c)->hp c≠none)->eB hp' l b=eB hp l b
 | [],_,_=>rfl
 |(n,s)::r,b,h=>by
  cases s<;>simp only [eB] at h⊢
  case cells l=>
   have e:(match cU b n with|some (some c)=>(match hp' c with|some ⟨_,.cells vs⟩=>l8 l vs b|_=>b)|_=>b)=(match cU b n with|some (some c)=>(match hp c with|some ⟨_,.cells vs⟩=>l8 l vs b|_=>b)|_=>b):=by
    split
    ·rename_i c hc
     have h1:=h (n,.cells l) (by simp) c (la (by
      split
      ·split
       ·exact m6 hc
       ·exact hc
      ·exact hc))
     cases hq:hp c with
     |none=>exact absurd hq h1
     |some ch=>rw [hg.j2 _ _ hq]
    ·rfl
   exact (congrArg (eB hp' r) e).trans (iS λq hq c hc=>h q (List.mem_cons_of_mem _ hq) c hc)
  all_goals exact iS λq hq c hc=>h q (List.mem_cons_of_mem _ hq) c hc
theorem mS {bd:Bd} {n c e:Nat} (h:xw bd hp n c e=true):xw bd hp' n c e=true:=by
 unfold xw at h⊢
 split at h
 ·rename_i c' hc
  rw [Bool.and_eq_true] at h
  have h2:=h.2
  split at h2
  ·rename_i ch hch
   rw [hg.j2 _ _ hch]
   simp only
   rw [h.1,h2]
   rfl
  ·cases h2
 ·cases h
theorem u7 {bd:Bd}:∀ {ns:List Nat} {l:List SV},sK bd hp ns l=true->sK bd hp' ns l=true
 | [],[],_=>rfl
 | [],_::_,h=>by cases h
 |n::ns,[],h=>by cases h
 |n::ns,y::r,h=>by
  cases y<;>simp only [sK] at h⊢ <;>try (cases h;done)
  simp only [Bool.and_eq_true] at h⊢
  exact ⟨⟨⟨mS hg h.1.1.1,h.1.1.2⟩,h.1.2⟩,u7 h.2⟩
theorem QX {bd:Bd} {s:Sh} {cs:List SV} (h:km bd hp s cs=true):km bd hp' s cs=true:=by
 unfold km at h⊢
 split at h
 ·exact mS hg h
 ·exact h
 ·simp only [Bool.and_eq_true] at h⊢
  exact ⟨⟨mS hg h.1.1,h.1.2⟩,h.2⟩
 ·simp only [Bool.and_eq_true] at h⊢
  exact ⟨h.1,u7 hg h.2⟩
 ·simp only [Bool.and_eq_true] at h⊢
  exact ⟨h.1,mS hg h.2.1,h.2.2⟩
 ·rfl
 ·rfl
 ·rfl
 ·cases h
theorem J0 {ok:Nat->Bool} {t:Ty} {x:SV} {ys:List t.T} (h:xY ok t hp x=some ys):xY ok t hp' x=some ys:=by
 have key:∀ {c:Nat} {f:Option Ch->Option (List t.T)},f none=none->f (hp c)=some ys->f (hp' c)=some ys:=λ{c f} h0 h=>by
  cases hq:hp c with
  |none=>rw [hq,h0] at h;cases h
  |some ch=>rw [hg.j2 _ _ hq,<-hq];exact h
 cases x<;>simp only [xY] at h⊢ <;>try (first|exact h|(cases h;done))
 case own c e=>exact key (c:=c) (f:=λo=>match o with|some ⟨ep,.row t' xs⟩=>cond (Nat.beq ep e&&ok c) (bQ t t' xs) none|some ⟨ep,.frz t' xs⟩=>cond (Nat.beq ep e) (bQ t t' xs) none|_=>none) rfl h
 case clip c e=>exact key (c:=c) (f:=λo=>match o with|some ⟨ep,.row t' xs⟩=>cond (Nat.beq ep e&&ok c) (bQ t t' xs) none|some ⟨ep,.frz t' xs⟩=>cond (Nat.beq ep e) (bQ t t' xs) none|_=>none) rfl h
 case part c e off len=>exact key (c:=c) (f:=λo=>match o with|some ⟨ep,.row t' xs⟩=>cond (Nat.beq ep e&&ok c) ((bQ t t' xs).map λl=>(l.drop off).take len) none|some ⟨ep,.frz t' xs⟩=>cond (Nat.beq ep e) ((bQ t t' xs).map λl=>(l.drop off).take len) none|_=>none) rfl h
theorem mI {ok:Nat->Bool}:∀ {t:Ty} {cs:List SV} {x:t.T},r8 ok hp t cs=some x->r8 ok hp' t cs=some x
 |.bool,_,_,h=>h
 |.u64,_,_,h=>h
 |.u8,_,_,h=>h
 |.int,_,_,h=>h
 |.str,_,_,h=>h
 |.elem,_,_,h=>h
 |.prod a b,cs,x,h=>by
  obtain ⟨h1,h2⟩:=bx h
  simp only [r8,mI h1,mI h2,oj]
 |.arr n t,cs,x,h=>by
  simp only [r8] at h⊢
  split at h
  ·rename_i hl
   rw [if_pos hl]
   exact jj (λ_ _=>mI) h
  ·cases h
 |.list t,cs,x,h=>by
  simp only [r8] at h⊢
  split at h
  ·rename_i hp0
   rw [if_pos hp0]
   obtain ⟨y,rfl,hy⟩:=lE h
   simp only [akY]
   exact J0 hg hy
  ·cases h
omit hg in
theorem Qo {a b:Bool} {x:Unit} (hab:a=true->b=true) (h:EY a=some x):EY b=some x:=by
 rw [hab (gW h)];rfl
theorem yR {bd:Bd} {ok:Nat->Bool} {s:Sh} {cs:List SV} {x:s.T} (h:od bd ok hp s cs=some x):od bd ok hp' s cs=some x:=by
 cases s<;>simp only [od] at h⊢
 case val b t=>exact mI hg h
 all_goals exact Qo (QX hg) h
theorem Ik {bd:Bd} {ok:Nat->Bool} {s:Sh} {y:SV} {x:s.T} (h:wX bd ok hp s y=some x):wX bd ok hp' s y=some x:=by
 unfold wX at h⊢
 split at h
 ·exact yR hg h
 ·cases h
theorem re {bd:Bd} {ok:Nat->Bool}:∀ {l:List Sh} {cs:List SV} {x:ShT l},ky bd ok hp l cs=some x->ky bd ok hp' l cs=some x
 | [],[],_,h=>h
 | [],_::_,_,h=>by cases h
 |s::r,cs,x,h=>by
  obtain ⟨h1,h2⟩:=bx (show oj (od bd ok hp s (cs.take s.size)) (ky bd ok hp r (cs.drop s.size))=some x from h)
  show oj (od bd ok hp' s (cs.take s.size)) (ky bd ok hp' r (cs.drop s.size))=some x
  rw [yR hg h1,re h2]
  rfl
theorem rb {bd:Bd} {ok:Nat->Bool} {tm:List SV}:∀ {l:List (Nat×Sh)} {x:SlT l},pZ bd ok hp tm l=some x->pZ bd ok hp' tm l=some x
 | [],_,h=>h
 |c::r,x,h=>by
  obtain ⟨h1,h2⟩:=bx h
  simp only [pZ,Ik hg h1,rb h2,oj]
  rfl
theorem EW {bd:Bd} {ok:Nat->Bool} {s:CSh} {b:Chunk} {x:s.T} (h:gj bd ok hp s b=some x):gj bd ok hp' s b=some x:=by
 cases s<;>cases b<;>simp only [gj] at h⊢ <;>first|exact h|exact re hg h
theorem LY {bd:Bd} {ok:Nat->Bool} {n:Nat} {s:CSh} {x:s.T} (h:iU bd ok hp n s=some x):iU bd ok hp' n s=some x:=by
 unfold iU at h⊢
 split at h
 ·split at h
  ·rename_i ch hch
   rw [hg.j2 _ _ hch]
   exact EW hg h
  ·cases h
 ·exact h
 ·exact h
theorem oe {bd:Bd} {ok:Nat->Bool}:∀ {l:List (Nat×CSh)} {x:EO l},dH bd ok hp l=some x->dH bd ok hp' l=some x
 | [],_,h=>h
 |c::r,x,h=>by
  obtain ⟨h1,h2⟩:=bx h
  simp only [dH,LY hg h1,oe h2,oj]
  rfl
omit hg in
theorem mH {bd:Bd} {ok:Nat->Bool}:∀ {l:List (Nat×CSh)} {x:EO l},dH bd ok hp l=some x->∀ q ∈ l,∀ c,cU bd q.1=some (some c)->hp c≠none
 | [],_,_,_,hq,_,_=>by cases hq
 |c::r,x,h,q,hq,c',hb=>by
  obtain ⟨h1,h2⟩:=bx h
  rcases List.mem_cons.1 hq with he|he
  ·subst he
   unfold iU at h1
   rw [hb] at h1
   simp only at h1
   intro hn
   rw [hn] at h1
   cases h1
  ·exact mH h2 q he c' hb
theorem adk {s:Shape} (hfx:s.fixed=0) {tm:List SV} {x:s.T} (h:s.prj ⟨tm,hp⟩=some x):s.prj ⟨tm,hp'⟩=some x/\s.bd ⟨tm,hp'⟩=s.bd ⟨tm,hp⟩:=by
 unfold Shape.prj at h⊢
 dsimp only at h⊢
 cases hb:s.EP ⟨tm,hp⟩ (s.bd ⟨tm,hp⟩)&&Nat.beq tm.length s.n
 ·rw [hb] at h;cases h
 ·rw [hb] at h
  obtain ⟨h1,h2⟩:=bx h
  have e:s.bd ⟨tm,hp'⟩=s.bd ⟨tm,hp⟩:=iS hg (mH h2)
  have e2:s.EP ⟨tm,hp'⟩ (s.bd ⟨tm,hp⟩)=s.EP ⟨tm,hp⟩ (s.bd ⟨tm,hp⟩):=by
   unfold Shape.EP
   rw [hfx]
   rfl
  refine ⟨?_,e⟩
  rw [e,e2,hb,cond_true,rb hg h1,oe hg h2]
  rfl
theorem GP {c:Nat} (h:hp c≠none):WJ hp' c=WJ hp c:=by
 unfold WJ
 cases hq:hp c with
 |none=>exact absurd hq h
 |some ch=>rw [hg.j2 _ _ hq]
theorem tl {bd:Bd} {fixed:Nat}:∀ {l:List (Nat×CSh)},(∀ q ∈ l,∀ c,cU bd q.1=some (some c)->hp c≠none)->cO bd hp' fixed l=cO bd hp fixed l
 | [],_=>rfl
 |c::r,h=>by
  have ih:=tl (bd:=bd) (fixed:=fixed) (l:=r) λq hq=>h q (List.mem_cons_of_mem _ hq)
  simp only [cO,ih]
  cases Nat.blt c.1 fixed
  ·simp only [cond_false]
   split
   ·rename_i o ho
    rw [GP hg (h c (by simp) o ho)]
   ·rfl
  ·rfl
theorem aj0 {S:aq} {pre:S.T->Bool} {F:S.T->OT S.Y} {args:List SV} {out:Out} (h:((S.aI pre F).f d args hp).run=some out):((S.aI pre F).f d args hp').run=some out:=by
 simp only [aq.aI] at h⊢
 split at h
 ·cases h
 ·rename_i x hx
  obtain ⟨e1,e2⟩:=adk hg (s:=S.inp) rfl hx
  rw [e1]
  simp only
  rw [e2]
  obtain ⟨h1,h2⟩:=OT.aD h
  rw [h1]
  obtain ⟨oy,h3,h4⟩:=OT.run_bind h2
  have hold:∀ q ∈ S.chunks,∀ c,cU (S.inp.bd ⟨args,hp⟩) q.1=some (some c)->hp c≠none:=by
   have hx':=hx
   unfold Shape.prj at hx'
   dsimp only at hx'
   cases hb:S.inp.EP ⟨args,hp⟩ (S.inp.bd ⟨args,hp⟩)&&Nat.beq args.length S.inp.n
   ·rw [hb] at hx';cases hx'
   ·rw [hb] at hx'
    obtain ⟨_,h2⟩:=bx hx'
    exact mH h2
  have hbok:∀ p ∈ S.inp.bd ⟨args,hp⟩,∃ q ∈ S.chunks,q.1=p.1:=by
   have hx':=hx
   unfold Shape.prj at hx'
   dsimp only at hx'
   cases hb:S.inp.EP ⟨args,hp⟩ (S.inp.bd ⟨args,hp⟩)&&Nat.beq args.length S.inp.n
   ·rw [hb] at hx';cases hx'
   ·rw [Bool.and_eq_true] at hb
    have:=hb.1
    unfold Shape.EP at this
    simp only [Bool.and_eq_true,List.all_eq_true,List.any_eq_true] at this
    intro p hp
    obtain ⟨q,hq,he⟩:=this.1.2 p hp
    exact ⟨q,hq,Nat.eq_of_beq_eq_true he⟩
  have hepN:∀ n c,cU (S.inp.bd ⟨args,hp⟩) n=some (some c)->WJ hp' c=WJ hp c:=λn c hc=>by
   obtain ⟨q,hq,he⟩:=hbok _ (jk hc)
   exact GP hg (hold q hq c (by rw [he];exact hc))
  unfold aq.emit at h4
  dsimp only at h4
  obtain ⟨hend,h5⟩:=OT.aD h4
  --the names
  have hfr:fresh hp' d=fresh hp d:=hZ hg
  have hnm:∀ n,S.fixed<=n\/(∃ c,cU (S.inp.bd ⟨args,hp⟩) n=some (some c))->S.nm (S.inp.bd ⟨args,hp⟩) hp' (fresh hp d) n=S.nm (S.inp.bd ⟨args,hp⟩) hp (fresh hp d) n:=λn hn=>by
   unfold aq.nm
   cases hb:Nat.blt n S.fixed
   ·rfl
   ·rcases hn with hn|⟨c,hn⟩
    ·have:=cJ hb;omega
    ·simp only [cond_true,nameOf,hn,hepN n c hn]
  have hnmall:S.nm (S.inp.bd ⟨args,hp⟩) hp' (fresh hp d)=S.nm (S.inp.bd ⟨args,hp⟩) hp (fresh hp d):=by
   funext n
   rcases Nat.lt_or_ge n S.fixed with hn|hn
   ·refine hnm n (.inr ?_)
    have he:=hend
    unfold aq.sA at he
    simp only [Bool.and_eq_true,List.all_eq_true] at he
    have h6:=(he.2.1 n (by simpa using hn)).1
    split at h6
    ·rename_i c hc;exact ⟨c,hc⟩
    ·cases h6
   ·exact hnm n (.inl hn)
  have hend':S.sA (S.inp.bd ⟨args,hp⟩) hp' (fresh hp d) oy.1=true:=by
   have he:=hend
   unfold aq.sA at he⊢
   simp only [Bool.and_eq_true] at he⊢
   refine ⟨he.1,he.2.1,he.2.2.1,?_⟩
   have h6:=he.2.2.2
   simp only [List.all_eq_true,Bool.and_eq_true,Bool.or_eq_true] at h6⊢
   intro q hq
   refine ⟨(h6 q hq).1,(h6 q hq).2.imp_right λh7=>⟨h7.1,?_⟩⟩
   have h8:=h7.2
   have hlt:=cJ h7.1
   cases hz:hp (fresh hp d+(q.1-S.fixed)) with
   |some ch=>rw [hz] at h8;cases h8
   |none=>
    rw [hg.free _ ?_ hz]
    ·rfl
    ·obtain ⟨k,hk1,hk2⟩:∃ k,k<=4000/\fresh hp d=(d+1)*4096+k:=by
      have:∀ (n k:Nat),n+k<=4000->∃ j,j<=4000/\dM hp d n k=(d+1)*4096+j:=by
       intro n
       induction n with
       |zero=>intro k hk;exact ⟨k,by omega,rfl⟩
       |succ n ih=>
        intro k hk
        simp only [dM]
        split
        ·exact ⟨k,by omega,rfl⟩
        ·exact ih (k+1) (by omega)
      exact this 4000 0 (by omega)
     rw [hk2]
     unfold je
     omega
  have hem:(S.emit (S.inp.bd ⟨args,hp⟩) d hp' oy.1 oy.2).run=some out:=by
   unfold aq.emit
   dsimp only
   rw [hfr,hend',hnmall,tl hg hold]
   exact h5
  have hbind:∀ {α β:Type} (t:OT α) (f:α->OT β) (a:α) (b:β),t.run=some a->(f a).run=some b->(t.bind f).run=some b:=by
   intro α β t f a b h1 h2
   induction t with
   |ok a'=>cases h1;exact h2
   |br c u v hu hv=>
    cases c
    ·exact hv h1
    ·exact hu h1
   |fail=>cases h1
  exact hbind (F x) _ oy out h3 hem
end
theorem aB {S:aq} {pre:S.T->Bool} {F:S.T->OT S.Y}:aK (S.aI pre F):=λ_ _ _ _ _ hg h=>aj0 hg h
end Sx
end Go.Proofs.YtohjofabochgfaaGreat

namespace Go.Proofs.YtohjofabochgfaaGreat
namespace Sx
open Go
def OT.wpR {α:Type} (t:OT α) (K:α->Prop):Prop:=
 OT.rec (motive:=λ_=>Prop) (λa=>K a) (λb _ _ x y=>Bool.rec (motive:=λ_=>Prop) y x b) False t
theorem OT.aax {α:Type} (t:OT α) (K:α->Prop):t.wpR K=t.wp K:=by
 induction t with
 |ok b=>rfl
 |br b x y hx hy=>
  cases b
  ·exact hy
  ·exact hx
 |fail=>rfl
theorem OT.AU {α:Type} {t:OT α} {a:α} {K:α->Prop} (h:t.run=some a) (hk:K a):t.wp K:=by
 induction t with
 |ok b=>cases h;exact hk
 |br b x y hx hy=>
  cases b
  ·exact hy h
  ·exact hx h
 |fail=>cases h
def ao (fn:Func):Code:=fn.body.getD .skip
abbrev aQ:=Sigma λp:SE×Shape=>p.2.T
def df (sh:Shape) (xs:SE->Option Shape) (Q:Sum sh.T aQ->Prop) (e:SE) (st:St):Prop:=match e with
 |.normal=>sh.on st λs=>Q (.inl s)
 |e=>match xs e with
  |none=>False
  |some s=>s.on st λx=>Q (.inr ⟨(e,s),x⟩)
def av {σ ε:Type} (T:σ->OT (Sum σ ε)):Nat->σ->Option ε
 |0,_=>none
 |n+1,s=>match (T s).run with
  |some (.inl s')=>av T n s'
  |some (.inr e)=>some e
  |none=>none
def dC (sh:Shape) (id:Nat) (ok:sh.T->Bool) (f:sh.T->OT aQ) (st:St) (K:SE->St->Prop):Prop:=
 sh.on st λs=>cond (ok s) ((f s).wp λe=>K (ae6 id e.1.1) (e.1.2.inj e.2)) False
section
variable {P:Program} {te:TE} {Φ:Env} (hte:kN P te) (hΦ:aW P Φ) (hany:bc P te Φ)
include hte hΦ hany
theorem ajJ {R₀:Ctx} {sh:Shape} (h0:Small R₀ sh.fixed) {xs:SE->Option Shape} (hxs:∀ e s,xs e=some s->Small R₀ s.fixed) (hpan:∀ v,xs (.pan v)=none) {Λ:Lam} {body:Code} (hΛ:DJ P R₀ Λ body)
 {id n:Nat} {T:sh.T->OT (Sum sh.T aQ)} (hT:∀ s Q,wps te Φ Λ n body (sh.inj s) (df sh xs Q)=(T s).wpR Q):
 Kq P R₀ (.block id (.loop body)) λst K=>sh.on st λs=>∃ m e,av T m s=some e/\K (ae6 id e.1.1) (e.1.2.inj e.2):=by
 intro R st a w K Q hx hst hl hK
 obtain ⟨s,R',⟨m,e,hr,hk⟩,hx',hst'⟩:=Shape.Iy h0 hx hst hl
 refine wp_block (yI ?_)
 clear hl hst hx
 induction m generalizing s R' a w with
 |zero=>cases hr
 |succ m ih=>
  simp only [av] at hr
  cases ht:(T s).run with
  |none=>rw [ht] at hr;cases hr
  |some o=>
   rw [ht] at hr
   have hw:wps te Φ Λ n body (sh.inj s) (df sh xs (λz=>z=o)):=by
    rw [hT,OT.aax];exact OT.AU ht rfl
   refine Cu (Kv (R₀:=R₀) hte hΦ hany hΛ hx' hst' hw ⟨?_,?_,?_,?_⟩)
   ·intro R1 st1 a1 w1 hx1 hst1 hk1
    obtain ⟨s',R2,g1,g4,g5⟩:=Shape.Iy h0 hx1 hst1 (hk1:sh.on st1 _)
    subst g1
    exact ih a1 w1 s' R2 hr g4 g5
   ·intro R1 st1 a1 w1 hx1 hst1 hk1
    simp only [df] at hk1
    split at hk1
    ·exact hk1.elim
    ·rename_i sh' he
     obtain ⟨x,R2,g1,g2,g3⟩:=Shape.Iy (hxs _ sh' he) hx1 hst1 hk1
     subst g1
     cases hr
     exact hK.ret R2 _ a1 w1 g2 g3 hk
   ·intro R1 st1 a1 w1 j hx1 hst1 hk1
    simp only [df] at hk1
    split at hk1
    ·exact hk1.elim
    ·rename_i sh' he
     obtain ⟨x,R2,g1,g2,g3⟩:=Shape.Iy (hxs _ sh' he) hx1 hst1 hk1
     subst g1
     cases hr
     simp only [ae6] at hk
     simp only [Exit.inBlock]
     by_cases e:j=id
     ·subst e
      rw [Nat.beq_refl,cond_true] at hk
      simp only [if_true]
      exact hK.normal R2 _ a1 w1 g2 g3 hk
     ·have hb:Nat.beq j id=false:=by
       cases hq:Nat.beq j id
       ·rfl
       ·exact absurd (Nat.eq_of_beq_eq_true hq) e
      rw [hb,cond_false] at hk
      simp only [e,if_false]
      exact hK.exit R2 _ a1 w1 j g2 g3 hk
   ·intro R1 st1 a1 w1 sv v hx1 hst1 hv hk1
    simp only [df,hpan] at hk1
theorem bz {R₀:Ctx} {sh:Shape} (h0:Small R₀ sh.fixed) {xs:SE->Option Shape} (hxs:∀ e s,xs e=some s->Small R₀ s.fixed) (hpan:∀ v,xs (.pan v)=none) {Λ:Lam} {body:Code} (hΛ:DJ P R₀ Λ body)
 {id n:Nat} {T:sh.T->OT (Sum sh.T aQ)} (hT:∀ s Q,wps te Φ Λ n body (sh.inj s) (df sh xs Q)=(T s).wpR Q) {ok:sh.T->Bool} {f:sh.T->OT aQ}
 (hf:∀ s,ok s=true->∃ m e,av T m s=some e/\(f s).run=some e):Kq P R₀ (.block id (.loop body)) (dC sh id ok f):=by
 intro R st a w K Q hx hst hl hK
 refine ajJ hte hΦ hany h0 hxs hpan hΛ hT (id:=id) R st a w K Q hx hst ?_ hK
 unfold dC at hl
 unfold Shape.on at hl⊢
 split at hl
 ·rename_i s hs
  cases ho:ok s
  ·rw [ho] at hl;exact hl.elim
  ·rw [ho] at hl
   obtain ⟨m,e,h1,h2⟩:=hf s ho
   obtain ⟨e',h3,h4⟩:=OT.Sz hl
   rw [h2] at h3
   cases h3
   rw [hs]
   exact ⟨m,e,h1,h4⟩
 ·exact hl.elim
def fnK (S:aq) (sel:SV->Option ax) (Q:S.Y->Prop) (v:SV) (hp:Hp):Prop:=match sel v with
 |some o=>match (o.shape S.fixed).prj ⟨acd o.rs.length v,hp⟩ with
  |some y=>Q ⟨o,y⟩
  |none=>False
 |none=>False
def apd (S:aq):List ax->(S.Y->Prop)->SV->Hp->Prop
 | [],_,_,_=>False
 |o::r,Q,v,hp=>match (o.shape S.fixed).prj ⟨acd o.rs.length v,hp⟩ with
  |some y=>Q ⟨o,y⟩
  |none=>apd S r Q v hp
omit hte hΦ hany in
theorem MZ {S:aq} {Q:S.Y->Prop} {v:SV} {hp:Hp}:∀ {outs:List ax},apd S outs Q v hp->∃ o ∈ outs,∃ y,(o.shape S.fixed).prj ⟨acd o.rs.length v,hp⟩=some y/\Q ⟨o,y⟩
 | [],h=>h.elim
 |o::r,h=>by
  simp only [apd] at h
  split at h
  ·rename_i y hy
   exact ⟨o,List.mem_cons_self ..,y,hy,h⟩
  ·obtain ⟨o',h1,h2⟩:=MZ h
   exact ⟨o',List.mem_cons_of_mem _ h1,h2⟩
theorem aE {f:FuncId} {fn:Func} {c:Code} (hf:P.funcs[f]? =some fn) (hb:fn.body=some c) (hname:(fn.name== "runtime.NumGoroutine")=false) {S:aq} {k:Nat} (hk:S.chunks.all (λc=>Nat.blt c.1 k&& !c.2.uE)=true) {Λ:Lam}
 (hΛ:∀ R,Small R k->DJ P R Λ c) {n:Nat} {sel:SV->Option ax} (hsel:∀ v o,sel v=some o->o.pan=false) {pre:S.T->Bool} {F T:S.T->OT S.Y}
 (h:∀ x Q,wpf te Φ Λ n fn (S.inp.inj x).tm (S.inp.inj x).hp (fnK S sel Q) (λ_ _=>False)=(T x).wpR Q)
 (hF:∀ x oy,pre x=true->(F x).run=some oy->(T x).run=some oy):ac P f (S.aI pre F):=by
 refine aqq hte hΦ hany hf hb hname hk hΛ (n:=n) λx oy hp hr=>⟨fnK S sel (λz=>z=oy),λ_ _=>False,?_,λv hp hq=> ?_,λ_ _ hq=>hq.elim⟩
 ·rw [h,OT.aax];exact OT.AU (hF x oy hp hr) rfl
 ·unfold fnK at hq
  split at hq
  ·rename_i o ho
   split at hq
   ·rename_i y hy
    subst hq
    exact ⟨hsel v o ho,hy⟩
   ·exact hq.elim
  ·exact hq.elim
theorem ajZ {f:FuncId} {fn:Func} {c:Code} (hf:P.funcs[f]? =some fn) (hb:fn.body=some c) (hname:(fn.name== "runtime.NumGoroutine")=false) {S:aq} {k:Nat} (hk:S.chunks.all (λc=>Nat.blt c.1 k&& !c.2.uE)=true) {Λ:Lam}
 (hΛ:∀ R,Small R k->DJ P R Λ c) {n:Nat} {outs:List ax} (hsel:(outs.all λo=> !o.pan)=true) {pre:S.T->Bool} {F T:S.T->OT S.Y}
 (h:∀ x Q,wpf te Φ Λ n fn (S.inp.inj x).tm (S.inp.inj x).hp (apd S outs Q) (λ_ _=>False)=(T x).wpR Q)
 (hF:∀ x oy,pre x=true->(F x).run=some oy->(T x).run=some oy):ac P f (S.aI pre F):=by
 refine aqq hte hΦ hany hf hb hname hk hΛ (n:=n) λx oy hp hr=>⟨apd S outs (λz=>z=oy),λ_ _=>False,?_,λv hp hq=> ?_,λ_ _ hq=>hq.elim⟩
 ·rw [h,OT.aax];exact OT.AU (hF x oy hp hr) rfl
 ·obtain ⟨o,ho,y,hy,hQ⟩:=MZ hq
  subst hQ
  exact ⟨by have:=List.all_eq_true.1 hsel o ho;simpa using this,hy⟩
end
end Sx
end Go.Proofs.YtohjofabochgfaaGreat

namespace Go.Proofs.YtohjofabochgfaaGreat
namespace Sx
open Go
def zeroCells:Ty->List Value
 |.bool=> [.bool false]
 |.u64=> [fP 0]
 |.u8=> [vu8 0]
 |.int=> [.int .i64 0]
 |.str=> [.string ⟨#[]⟩]
 |.elem=> [fP 0,fP 0,fP 0,fP 0]
 |.prod a b=>zeroCells a++zeroCells b
 |.arr n t=>(List.replicate n (zeroCells t)).flatten
 |.list _=> [.slice none 0 0]
theorem ct:∀ t:Ty,(zeroCells t).length=t.size
 |.bool=>rfl
 |.u64=>rfl
 |.u8=>rfl
 |.int=>rfl
 |.str=>rfl
 |.elem=>rfl
 |.prod a b=>by simp only [zeroCells,List.length_append,ct a,ct b,Ty.size]
 |.arr n t=>by simp [zeroCells,ct t,Ty.size]
 |.list _=>rfl
theorem C3 {c:List Value} {m:Nat} (hc:c.length=m):∀ (n i:Nat),i<n->seg (List.replicate n c).flatten (i*m) m=c
 |0,_,h=>by omega
 |n+1,0,_=>by
  simp only [seg,List.replicate_succ,List.flatten_cons,Nat.zero_mul,List.drop_zero,List.take_append,hc,Nat.sub_self,List.take_zero,List.append_nil]
  rw [<-hc,List.take_length]
 |n+1,i+1,h=>by
  have ih:=C3 hc n i (by omega)
  simp only [seg] at ih⊢
  rw [List.replicate_succ,List.flatten_cons]
  have:(i+1)*m=c.length+i*m:=by rw [hc,Nat.add_mul];omega
  rw [this,List.drop_append]
  simp only [Nat.add_sub_cancel_left]
  rw [List.drop_eq_nil_of_le (by omega),List.nil_append,ih]
theorem Ao {F:Nat->Option Obj}:∀ t:Ty,Rep F t t.d (zeroCells t)
 |.bool=>rfl
 |.u64=>rfl
 |.u8=>rfl
 |.int=>⟨rfl,by decide⟩
 |.str=>⟨rfl,by simp [Ty.d]⟩
 |.elem=>rfl
 |.prod a b=>by
  refine ⟨by simp only [zeroCells,List.length_append,ct],?_,?_⟩
  ·have:(zeroCells (.prod a b)).take a.size=zeroCells a:=by
    simp only [zeroCells]
    rw [<-ct a,List.take_left]
   rw [this];exact Ao a
  ·have:(zeroCells (.prod a b)).drop a.size=zeroCells b:=by
    simp only [zeroCells]
    rw [<-ct a,List.drop_left]
   rw [this];exact Ao b
 |.arr n t=>by
  refine ⟨ct _,by simp [Ty.d],λi hi=> ?_⟩
  have h1:(Ty.d (.arr n t)).getD i t.d=t.d:=by
   simp [Ty.d,List.getD_eq_getElem?_getD,List.getElem?_replicate,hi]
  rw [h1]
  simp only [zeroCells]
  rw [C3 (ct t) n i hi]
  exact Ao t
 |.list t=>⟨by simp [Ty.d],none,0,rfl,by simp [Ty.d],.inl rfl⟩
def aqA (P:Program) (T:TypeId) (d:TypeDesc):TD->Bool
 |.struct fs=>match d with
  |.struct fields=>decide (fields.toList.map (λf=>(f.offset,f.type))=fs)&&fields.toList.all (λf=> !decide (f.name= "_"))&& !P.stoodInHeld T&&
   (fields.toList.mapM (λf=>(P.info? f.type).map λi=>(f.offset,i.size))).isSome
  |_=>false
 |.array n e=>match d with
  |.array n' e'=>Nat.beq n n'&&Nat.beq e e'
  |_=>false
 |.slice e=>match d with
  |.slice e'=>Nat.beq e e'
  |_=>false
 |.int k=>match d with
  |.int k'=>decide (k'=k)
  |_=>false
 |.bool=>match d with
  |.bool=>true
  |_=>false
 |.str=>match d with
  |.string=>true
  |_=>false
 |.ptr ms=>match d with
  |.pointer _=>match P.info? T with
   |some i=>ms.all λnf=>match i.methods.find? (λq=>q.name==nf.1) with
    |some m=>m.path.toList.isEmpty&&(match m.func with
     |some (f,b)=>b&&Nat.beq f nf.2
     |none=>false)
    |none=>false
   |none=>false
  |_=>false
 |.iface=>match d with
  |.interface _=>true
  |_=>false
 |.other=>match d with
  |.struct _=>false
  |.array .. =>false
  |_=>true
theorem af {P:Program} {T:TypeId} {ti:TI} (h1:(P.info? T).isSome=true) (h4:((P.info? T).get h1).zero.isSome=true) (h10:(P.underlying T).isSome=true)
 (hs:Nat.beq ((P.info? T).get h1).size ti.size=true) (hb:Nat.beq ((P.info? T).get h1).bytes ti.bytes=true)
 (hz:(((P.info? T).get h1).zero.get h4).cells.toList.map BT=ti.zero) (hc:((((P.info? T).get h1).zero.get h4).cells.toList.all Value.oneCell')=true)
 (hn:Nat.beq (((P.info? T).get h1).zero.get h4).cells.size ti.size=true) (h8:Nat.ble ti.size 16777216=true) (h9:(ti.desc.agg||Nat.beq ti.size 1)=true)
 (hd:aqA P T ((P.underlying T).get h10) ti.desc=true)
 (ht:match ti.ty with
  |none=>True
  |some t=>Nat.beq t.size ti.size=true/\(((P.info? T).get h1).zero.get h4).cells.toList=zeroCells t/\(!ti.desc.agg|| !P.eqGuardType P.depth T)=true):aV P T ti:=by
 have e1:P.info? T=some ((P.info? T).get h1):=(Option.some_get h1).symm
 have e4:((P.info? T).get h1).zero=some (((P.info? T).get h1).zero.get h4):=(Option.some_get h4).symm
 refine ⟨⟨_,_,e1,Nat.eq_of_beq_eq_true hs,Nat.eq_of_beq_eq_true hb,e4,hz,Nat.eq_of_beq_eq_true hn,λu hu=>List.all_eq_true.1 hc u hu⟩,Nat.le_of_ble_eq_true h8,λha=> ?_,⟨_,(Option.some_get h10).symm,?_⟩,λt hty=> ?_⟩
 ·rw [ha,Bool.false_or] at h9
  exact Nat.eq_of_beq_eq_true h9
 ·generalize (P.underlying T).get h10=d at hd
  cases hdd:ti.desc<;>rw [hdd] at hd<;>simp only [aqA] at hd<;>(try dsimp only)
  case struct fs=>
   split at hd
   ·rename_i fields
    simp only [Bool.and_eq_true,decide_eq_true_eq,List.all_eq_true,Bool.not_eq_true',decide_eq_false_iff_not] at hd
    exact ⟨fields,rfl,hd.1.1.1,hd.1.1.2,hd.1.2,hd.2⟩
   ·cases hd
  case array n e=>
   split at hd
   ·rw [Bool.and_eq_true] at hd
    rw [Nat.eq_of_beq_eq_true hd.1,Nat.eq_of_beq_eq_true hd.2]
   ·cases hd
  case slice e=>
   split at hd
   ·rw [Nat.eq_of_beq_eq_true hd]
   ·cases hd
  case int k=>
   split at hd
   ·rw [of_decide_eq_true hd]
   ·cases hd
  case bool=>
   split at hd
   ·rfl
   ·cases hd
  case str=>
   split at hd
   ·rfl
   ·cases hd
  case ptr ms=>
   split at hd
   ·refine ⟨⟨_,rfl⟩,?_⟩
    split at hd
    ·rename_i i hi
     intro nf hnf
     have hq:=List.all_eq_true.1 hd nf hnf
     split at hq
     ·rename_i m hm
      rw [Bool.and_eq_true] at hq
      refine ⟨i,m,hi,hm,?_,?_⟩
      ·apply Array.ext'
       simpa using hq.1
      ·have h2:=hq.2
       split at h2
       ·rename_i f b hf
        rw [Bool.and_eq_true] at h2
        rw [hf,Nat.eq_of_beq_eq_true h2.2,h2.1]
       ·cases h2
     ·cases hq
    ·cases hd
   ·cases hd
  case iface=>
   split at hd
   ·exact ⟨_,rfl⟩
   ·cases hd
  case other=>
   cases d<;>first|trivial|(cases hd;done)
 ·rw [hty] at ht
  obtain ⟨t1,t2,t3⟩:=ht
  refine ⟨Nat.eq_of_beq_eq_true t1,λF z hz'=> ?_,λha=> ?_⟩
  ·rw [e1] at hz'
   simp only [Option.bind_some] at hz'
   rw [e4] at hz'
   cases hz'
   rw [t2]
   exact Ao t
  ·rw [ha,Bool.not_true,Bool.false_or,Bool.not_eq_true'] at t3
   exact t3
def apG:TE:=λ_=>none
def aj (T:TypeId) (ti:TI) (te:TE):TE:=λx=>cond (Nat.beq x T) (some ti) (te x)
theorem aio {P:Program}:kN P apG:=λ_ _ h=>by cases h
theorem ab {P:Program} {T:TypeId} {ti:TI} {te:TE} (h:aV P T ti) (ht:kN P te):kN P (aj T ti te):=λx t hx=>by
 unfold aj at hx
 cases hb:Nat.beq x T
 ·rw [hb] at hx;exact ht x t hx
 ·rw [hb] at hx
  cases hx
  rw [Nat.eq_of_beq_eq_true hb]
  exact h
def ae9:Env:=λ_=>none
def aA (f:FuncId) (s:cN) (Φ:Env):Env:=λx=>cond (Nat.beq x f) (some s) (Φ x)
theorem ae8 {P:Program}:aW P ae9:=λ_ _ h=>by cases h
theorem ai {P:Program} {f:FuncId} {s:cN} {Φ:Env} (h:ac P f s) (hΦ:aW P Φ):aW P (aA f s Φ):=λx t hx=>by
 unfold aA at hx
 cases hb:Nat.beq x f
 ·rw [hb] at hx;exact hΦ x t hx
 ·rw [hb] at hx
  cases hx
  rw [Nat.eq_of_beq_eq_true hb]
  exact h
theorem Rp:aw ae9:=λ_ _ h=>by cases h
theorem ae {f:FuncId} {s:cN} {Φ:Env} (h:aK s) (hΦ:aw Φ):aw (aA f s Φ):=λx t hx=>by
 unfold aA at hx
 cases hb:Nat.beq x f
 ·rw [hb] at hx;exact hΦ x t hx
 ·rw [hb] at hx
  cases hx
  exact h
end Sx
end Go.Proofs.YtohjofabochgfaaGreat

namespace Go.Proofs.YtohjofabochgfaaGreat
namespace Sx
open Go
def kn (l:List (Nat×Shape)) (r:Option Shape):SE->Option Shape
 |.exit n=>(l.find? λp=>Nat.beq p.1 n).map (·.2)
 |.ret=>r
 |_=>none
theorem aJ {l:List (Nat×Shape)} {r:Option Shape} {k:Nat} {R:Ctx} (hl:(l.all λp=>Nat.beq p.2.fixed k)=true) (hr:(r.all λs=>Nat.beq s.fixed k)=true) (hR:Small R k):
 ∀ e s,kn l r e=some s->Small R s.fixed:=by
 intro e s h
 cases e with
 |exit n=>
  simp only [kn] at h
  cases hf:l.find? λp=>Nat.beq p.1 n with
  |none=>rw [hf] at h;cases h
  |some p=>
   rw [hf] at h
   cases h
   rw [Nat.eq_of_beq_eq_true (List.all_eq_true.1 hl p (List.mem_of_find?_eq_some hf))]
   exact hR
 |ret=>
  simp only [kn] at h
  subst h
  have e:s.fixed=k:=Nat.eq_of_beq_eq_true (by simpa using hr)
  rw [e]
  exact hR
 |normal=>cases h
 |pan v=>cases h
theorem aY {l:List (Nat×Shape)} {r:Option Shape} (v:SV):kn l r (.pan v)=none:=rfl
section
variable {σ ε:Type} {T:σ->OT (Sum σ ε)}
theorem aM {s s':σ} {m:Nat} {e:ε} (h:(T s).run=some (.inl s')) (h2:av T m s'=some e):av T (m+1) s=some e:=by
 simp only [av,h];exact h2
theorem aR {s:σ} {e:ε} (h:(T s).run=some (.inr e)):av T 1 s=some e:=by
 simp only [av,h]
theorem Ct (st:Nat->σ) (n:Nat) {e:ε} (h:∀ k,k<n->(T (st k)).run=some (.inl (st (k+1)))) (hn:(T (st n)).run=some (.inr e)):∀ j k,k+j=n->av T (j+1) (st k)=some e
 |0,k,hk=>by
  have:k=n:=by omega
  subst this
  exact aR hn
 |j+1,k,hk=>aM (h k (by omega)) (Ct st n h hn j (k+1) (by omega))
theorem QS (st:Nat->σ) (n:Nat) {e:ε} (h:∀ k,k<n->(T (st k)).run=some (.inl (st (k+1)))) (hn:(T (st n)).run=some (.inr e)) (k:Nat) (hk:k<=n):∃ m,av T m (st k)=some e:=
 ⟨n-k+1,Ct st n h hn (n-k) k (by omega)⟩
def upto {β:Type} (f:Nat->β->β) (b:β):Nat->β
 |0=>b
 |k+1=>f k (upto f b k)
theorem bP {β:Type} (mk:Nat->β->σ) (step:Nat->β->β) (fin:β->ε) (n:Nat) (b0:β) (P:Nat->β->Prop) (h0:P 0 b0)
 (hs:∀ k b,k<n->P k b->(T (mk k b)).run=some (.inl (mk (k+1) (step k b)))/\P (k+1) (step k b))
 (he:∀ b,P n b->(T (mk n b)).run=some (.inr (fin b))):(∃ m,av T m (mk 0 b0)=some (fin (upto step b0 n)))/\P n (upto step b0 n):=by
 have hP:∀ k,k<=n->P k (upto step b0 k):=by
  intro k
  induction k with
  |zero=>exact λ_=>h0
  |succ k ih=>exact λhk=>(hs k _ (by omega) (ih (by omega))).2
 refine ⟨?_,hP n (Nat.le_refl _)⟩
 exact QS (λk=>mk k (upto step b0 k)) n (λk hk=>(hs k _ hk (hP k (by omega))).1) (he _ (hP n (Nat.le_refl _))) 0 (Nat.zero_le _)
end
def tab {α:Type} (x:List α) (n:Nat) (d:α):List α:=(List.range n).map λi=>x.getD i d
def lay {α:Type} (x y:List α) (n:Nat) (d:α):List α:=(List.range n).foldl (λa i=>a.set i (y.getD i d)) x
theorem xv {α:Type} {x y:List α} {d:α}:∀ n,(lay x y n d).length=x.length
 |0=>rfl
 |n+1=>by
  have:=xv (x:=x) (y:=y) (d:=d) n
  simp only [lay,List.range_succ,List.foldl_append,List.foldl_cons,List.foldl_nil,List.length_set] at this⊢
  exact this
theorem ad8 {α:Type} {x y:List α} {d:α}:∀ n i,n<=x.length->i<x.length->(lay x y n d)[i]? =if i<n then some (y.getD i d) else x[i]?
 |0,i,_,_=>by simp [lay]
 |n+1,i,h,hi=>by
  have ih:=ad8 (x:=x) (y:=y) (d:=d) n i (by omega) hi
  have hl:=xv (x:=x) (y:=y) (d:=d) n
  simp only [lay] at ih hl
  simp only [lay,List.range_succ,List.foldl_append,List.foldl_cons,List.foldl_nil]
  by_cases e:n=i
  ·subst e
   rw [List.getElem?_set_self (by omega),if_pos (by omega)]
  ·rw [List.getElem?_set_ne e,ih]
   by_cases h1:i<n
   ·rw [if_pos h1,if_pos (by omega)]
   ·rw [if_neg h1,if_neg (by omega)]
theorem ad9 {α:Type} {x y:List α} {n:Nat} {d:α} (hx:x.length=n) (hy:y.length=n):lay x y n d=y:=by
 apply List.ext_getElem?
 intro i
 by_cases hi:i<n
 ·rw [ad8 n i (by omega) (by omega),if_pos hi,List.getD_eq_getElem?_getD,List.getElem?_eq_getElem (by omega)]
  rfl
 ·rw [List.getElem?_eq_none (by rw [xv];omega),List.getElem?_eq_none (by omega)]
theorem OT.kq {α:Type} {a:α}:(OT.ok a).run=some a:=rfl
theorem OT.ap {α:Type} {b:Bool} {x y:OT α} (h:b=true):(OT.br b x y).run=x.run:=by rw [h];rfl
theorem OT.ay {α:Type} {b:Bool} {x y:OT α} (h:b=false):(OT.br b x y).run=y.run:=by rw [h];rfl
def gd {α:Type}:List Bool->OT α->OT α
 | [],x=>x
 |b::r,x=>.br b (gd r x) .fail
theorem al {α:Type} {x:OT α}:∀ {bs:List Bool},bs.all (λb=>b)=true->(gd bs x).run=x.run
 | [],_=>rfl
 |b::r,h=>by
  rw [List.all_cons,Bool.and_eq_true] at h
  exact (OT.ap h.1).trans (al h.2)
theorem bF {n:Int} (h: -9223372036854775808<=n/\n<=9223372036854775807):inR n=true:=by simp [inR,h.1,h.2]
theorem bG {k:Int} {n:Nat} (h:0<=k/\k<(n:Int)):inB k n=true:=by simp [inB,h.1,h.2]
end Sx
end Go.Proofs.YtohjofabochgfaaGreat

namespace Go.Proofs.YtohjofabochgfaaGreat
namespace Sx
open Go Go.RowKit
def eX (w:World):Ctx:=⟨λb=>w.heap[b]?,⟨λ_=>none,w⟩,λ_=>none,ajn⟩
theorem air (w:World):dg (eX w) w:=
 ⟨λ_ _ h=>h,(λ_ _ h=>by cases h),(λc ch h=>by cases h),(λc c' ch ch' L L' h=>by cases h),λ_ _ _=>rfl,⟨rfl,rfl,rfl⟩⟩
theorem OW {w w':World} {R':Ctx} {u:List (Nat×Ch)} (h:eD (eX w) R' w' u):Below w.heap.size w w':=by
 have he:=h.mem.env
 rw [h.ext.U] at he
 have hb:∀ k,k<w.heap.size->w'.heap[k]? =w.heap[k]? :=λk hk=>by
  have h1:w.heap[k]? =some w.heap[k]:=by simp [hk]
  rw [h.mem.F k _ (h.ext.F k _ h1),h1]
 refine ⟨he.1,he.2.2,he.2.1,?_,hb⟩
 rcases Nat.lt_or_ge w'.heap.size w.heap.size with hl|hl
 ·have:=hb _ hl
  simp [hl] at this
 ·exact hl
theorem aeb {P:Program} {f:FuncId} {s:cN} (h:ac P f s) (hfn:∃ fn,P.funcs[f]? =some fn/\(fn.name== "runtime.NumGoroutine")=false/\fn.body.isNone=false) {w:World} {args:List SV} {vs:List Value} {u:List (Nat×Ch)} (hr:SV.bM (eX w) args vs)
 (ht:(s.f 0 args ajn).run=some (.ret ⟨.bool true,u⟩)):Calls P f vs.toArray w λe w'=>e=.returned (.bool true)/\Below w.heap.size w w':=by
 have hc:Calls P f vs.toArray w (Xe (eX w) (.ret ⟨.bool true,u⟩)):=by
  rcases h.calls (eX w) w 0 args vs _ (air w) hr ht with ⟨_,_,_,_,hc⟩|⟨v,w',hv,_⟩
  ·exact hc
  ·exfalso
   obtain ⟨fn,f1,f2,f3⟩:=hfn
   have f2':¬fn.name= "runtime.NumGoroutine" :=by simpa using f2
   have f3':¬fn.body=none:=λe=>by rw [e] at f3;simp at f3
   simp [callFunc,f1,f2',f3'] at hv
 refine hc.mono λe w' hp=> ?_
 obtain ⟨v,R',rfl,ha,hv⟩:=hp
 simp only [SV.rel] at hv
 subst hv
 exact ⟨rfl,OW ha⟩
end Sx
end Go.Proofs.YtohjofabochgfaaGreat

namespace Go.Proofs.YtohjofabochgfaaGreat
namespace Sx
open Go Go.RowKit
def KN (te:TE) (T:TypeId) (n:Nat):Bool:=match te T with
 |some ei=>Nat.beq ei.size n
 |none=>false
def wZ (go:TypeId->Ty->Bool) (te:TE):Nat->List (Nat×TypeId)->Ty->Bool
 |o,[(p,T)],y=>Nat.beq o p&&(KN te T y.size&&go T y)
 |o,(p,T)::q::r,.prod a b=>Nat.beq o p&&(KN te T a.size&&(go T a&&wZ go te (o+a.size) (q::r) b))
 |_,_,_=>false
def uc (te:TE):Nat->TypeId->Ty->Bool
 |0,_,_=>false
 |n+1,T,y=>match te T with
  |none=>false
  |some ti=>match ti.desc,y with
   |.bool,.bool=>true
   |.int .u64,.u64=>true
   |.int .u8,.u8=>true
   |.int .i64,.int=>true
   |.str,.str=>true
   |.array m e,.elem=>(match te e with
    |some ei=>(match ei.desc with|.int .u64=>true|_=>false)&&Nat.beq ei.size 1
    |none=>false)&&(Nat.beq m 4&&Nat.beq ti.size 4)
   |.array m e,.arr k t=>Nat.beq m k&&(KN te e t.size&&(Nat.beq ti.size (k*t.size)&&uc te n e t))
   |.slice e,.list t=>(match te e with
    |some ei=>Nat.beq ei.size t.size&&(Nat.blt 0 ei.size&&Nat.blt 0 ei.bytes)
    |none=>false)&&uc te n e t
   |.struct fs,y=>Nat.beq ti.size y.size&&wZ (uc te n) te 0 fs y
   |_,_=>false
theorem sj {α β:Type} {f:α->Option β}:∀ {l:List α} {ys:List β},l.mapM f=some ys->ys.length=l.length/\∀ (i:Nat) (h:i<l.length) (h':i<ys.length),f l[i]=some ys[i]
 | [],ys,h=>by
  simp only [List.mapM_nil,Option.pure_def,Option.some.injEq] at h
  subst h
  exact ⟨rfl,λi hi=>absurd hi (Nat.not_lt_zero _)⟩
 |x::l,ys,h=>by
  simp only [List.mapM_cons,Option.bind_eq_bind,Option.bind_eq_some_iff,Option.pure_def,Option.some.injEq] at h
  obtain ⟨y,h1,r,h2,rfl⟩:=h
  obtain ⟨h3,h4⟩:=sj h2
  refine ⟨by simp [h3],λi hi hi'=> ?_⟩
  cases i with
  |zero=>exact h1
  |succ i=>exact h4 i (by simpa using hi) (by simpa using hi')
theorem sy {α:Type} {d:α} {Q:Nat->α->Prop}:∀ (n:Nat),(∀ i,i<n->∃ x,Q i x)->∃ l:List α,l.length=n/\∀ i,i<n->Q i (l.getD i d)
 |0,_=>⟨[],rfl,λi h=>absurd h (Nat.not_lt_zero _)⟩
 |n+1,h=>by
  obtain ⟨l,h1,h2⟩:=sy n λi hi=>h i (by omega)
  obtain ⟨x,hx⟩:=h n (by omega)
  refine ⟨l++ [x],by simp [h1],λi hi=> ?_⟩
  rcases Nat.lt_or_ge i n with hi'|hi'
  ·have:=h2 i hi'
   rwa [List.getD_eq_getElem?_getD,List.getElem?_append_left (by omega),<-List.getD_eq_getElem?_getD]
  ·have:i=n:=by omega
   subst this
   rw [List.getD_eq_getElem?_getD,List.getElem?_append_right (by omega),h1]
   simpa using hx
theorem JJ {w:World} {a:Addr} {n:Nat} {cs:List Value} (hn:0<n) (h:w.cells? 0 a n=some cs):
 ∃ arr E fz,w.heap[a.block]? =some (.cells arr E fz)/\a.spot=none/\a.off+n<=arr.size/\cs=seg arr.toList a.off n:=by
 unfold World.cells? at h
 rw [if_pos (Nat.zero_le _)] at h
 obtain ⟨h1,h2⟩:=sj h
 rw [List.length_range] at h1
 have hat:∀ i (hi:i<n),w.cell? (a.add i)=some (cs[i]'(by omega)):=λi hi=>by
  have:=h2 i (by simpa using hi) (by omega)
  simpa using this
 have h0:=hat 0 hn
 have e0:a.add 0=a:=rfl
 rw [e0] at h0
 unfold World.cell? at h0
 split at h0
 ·rename_i arr E fz hb
  split at h0
  ·cases h0
  ·rename_i hs
   have hs':a.spot=none:=by simpa using hs
   have hget:∀ i (hi:i<n),arr[a.off+i]? =some (cs[i]'(by omega)):=λi hi=>by
    have:=hat i hi
    unfold World.cell? Addr.add at this
    by_cases hi0:i=0
    ·subst hi0
     simpa [hb,hs'] using this
    ·rw [if_neg hi0] at this
     simpa [hb] using this
   have hle:a.off+n<=arr.size:=by
    have:=(Array.getElem?_eq_some_iff.1 (hget (n-1) (by omega))).1
    omega
   refine ⟨arr,E,fz,hb,hs',hle,?_⟩
   apply List.ext_getElem
   ·rw [eZ (by simpa using hle)];exact h1
   ·intro i hi hi'
    obtain ⟨hlt,he⟩:=Array.getElem?_eq_some_iff.1 (hget i (by omega))
    simp only [seg,List.getElem_take,List.getElem_drop,Array.getElem_toList]
    exact he.symm
 ·cases h0
section
variable {H:Type} {enc:TypeId×Value->H} {P:Program} {te:TE} (hte:kN P te) {w:World} {sp:Nat->Bool}
abbrev Jb (w:World):Nat->Option Obj:=λb=>w.heap[b]?
include hte
theorem ic {T:TypeId} {ti:TI} (h:te T=some ti):P.cellsOf T=ti.size:=by
 obtain ⟨i,z,h1,h2,_⟩:=(hte T ti h).ao8
 unfold Program.cellsOf
 rw [h1]
 exact h2
theorem G5 {T:TypeId} {ti:TI} (h:te T=some ti):P.bytesOf T=ti.bytes:=by
 obtain ⟨i,z,h1,_,h2,_⟩:=(hte T ti h).ao8
 unfold Program.bytesOf
 rw [h1]
 exact h2
omit hte in
theorem rE {T:TypeId} {n:Nat} (h:KN te T n=true):∃ ti,te T=some ti/\ti.size=n:=by
 unfold KN at h
 split at h
 ·rename_i ei he
  exact ⟨ei,he,Nat.eq_of_beq_eq_true h⟩
 ·cases h
omit hte in
theorem kS {e:TypeId}:∀ {l:List (DataW H)} {d:DataW H},d ∈ l->∀ n ∈ d.weights P e,n ∈ DataW.weightsAll P e l
 |x::l,d,h,n,hn=>by
  simp only [DataW.weightsAll,List.mem_append]
  rcases List.mem_cons.1 h with rfl|h
  ·exact .inl hn
  ·exact .inr (kS h n hn)
theorem GJ {go:TypeId->Ty->Bool} {fuel:Nat} {cs:List Value}
 (hgo:∀ T y c d ps,go T y=true->c.length=y.size->DataW.trod enc P w 0 sp true fuel T c=some (d,ps)->(∀ n ∈ d.weights P T,n<=reachBytes)->∃ x,Rep (Jb w) y x c):
 ∀ (fl:List Field) (o:Nat) (y:Ty) (xs:List (DataW H×List MemPlace)),wZ go te o (fl.map λf=>(f.offset,f.type)) y=true->o+y.size=cs.length->
  fl.mapM (λf=>DataW.trod enc P w 0 sp true fuel f.type ((cs.drop f.offset).take (P.cellsOf f.type)))=some xs->
  (∀ n ∈ DataW.weightsEach P (fl.map (·.type)) (xs.map (·.1)),n<=reachBytes)->∃ x,Rep (Jb w) y x (cs.drop o)
 | [],o,y,xs,h,_,_,_=>by simp [wZ] at h
 | [f],o,y,xs,h,hl,hm,hw=>by
  simp only [List.map_cons,List.map_nil,wZ,Bool.and_eq_true] at h
  obtain ⟨h1,h2,h3⟩:=h
  have h1:=Nat.eq_of_beq_eq_true h1
  obtain ⟨ti,ht,hs⟩:=rE h2
  simp only [List.mapM_cons,List.mapM_nil,Option.bind_eq_bind,Option.bind_eq_some_iff,Option.pure_def,Option.some.injEq] at hm
  obtain ⟨⟨d,ps⟩,e1,r,rfl,rfl⟩:=hm
  rw [ic hte ht,hs,<-h1] at e1
  have hlen:(cs.drop o).length=y.size:=by simp;omega
  rw [List.take_of_length_le (by omega)] at e1
  exact hgo _ _ _ _ _ h3 hlen e1 λn hn=>hw n (by simp only [List.map_cons,List.map_nil,DataW.weightsEach,List.append_nil];exact hn)
 |f::g::r,o,y,xs,h,hl,hm,hw=>by
  cases y<;>simp only [List.map_cons,wZ,Bool.and_eq_true] at h<;>try (cases h;done)
  rename_i a b
  obtain ⟨h1,h2,h3,h4⟩:=h
  have h1:=Nat.eq_of_beq_eq_true h1
  obtain ⟨ti,ht,hs⟩:=rE h2
  rw [List.mapM_cons] at hm
  simp only [Option.bind_eq_bind,Option.bind_eq_some_iff,Option.pure_def,Option.some.injEq] at hm
  obtain ⟨⟨d,ps⟩,e1,q,e2,rfl⟩:=hm
  rw [ic hte ht,hs,<-h1] at e1
  simp only [Ty.size] at hl
  obtain ⟨x1,k1⟩:=hgo _ _ _ _ _ h3 (by simp;omega) e1 λn hn=>hw n (by simp only [List.map_cons,DataW.weightsEach,List.mem_append];exact .inl hn)
  obtain ⟨x2,k2⟩:=GJ hgo (g::r) (o+a.size) b q h4 (by omega) e2 λn hn=>hw n (by simp only [List.map_cons,DataW.weightsEach,List.mem_append] at hn⊢;exact .inr hn)
  refine ⟨(x1,x2),?_⟩
  simp only [Rep]
  refine ⟨by simp;omega,k1,?_⟩
  rw [List.drop_drop]
  exact k2
theorem af2 {go:TypeId->Ty->Bool} {fuel:Nat} {cs:List Value} {e:TypeId} {t:Ty} {ei:TI} (he:te e=some ei) (hs:ei.size=t.size)
 (hgo:∀ c d ps,c.length=t.size->DataW.trod enc P w 0 sp true fuel e c=some (d,ps)->(∀ n ∈ d.weights P e,n<=reachBytes)->∃ x,Rep (Jb w) t x c) {m:Nat} (hl:cs.length=m*t.size) {xs:List (DataW H×List MemPlace)}
 (hm:((List.range m).mapM λi=>DataW.trod enc P w 0 sp true fuel e ((cs.drop (i*P.cellsOf e)).take (P.cellsOf e)))=some xs)
 (hw:∀ n ∈ DataW.weightsAll P e (xs.map (·.1)),n<=reachBytes):∀ i,i<m->∃ x,Rep (Jb w) t x (seg cs (i*t.size) t.size):=λi hi=>by
 obtain ⟨h1,h2⟩:=sj hm
 rw [List.length_range] at h1
 have:=h2 i (by simpa using hi) (by omega)
 rw [List.getElem_range,ic hte he,hs] at this
 have hle:(i+1)*t.size<=m*t.size:=Nat.mul_le_mul_right _ hi
 rw [Nat.succ_mul] at hle
 refine hgo _ (xs[i]'(by omega)).1 (xs[i]'(by omega)).2 (eZ (by omega)) this λn hn=>hw n (kS (List.mem_map.2 ⟨xs[i]'(by omega),List.getElem_mem _,rfl⟩) n hn)
omit hte in
theorem alJ {fuel:Nat} {e:TypeId} {c:Value} {d:DataW H} {ps:List MemPlace} (hu:P.underlying e=some (.int .u64)) (hr:DataW.trod enc P w 0 sp true fuel e [c]=some (d,ps)):∃ x:UInt64,c=fP x:=by
 cases fuel with
 |zero=>simp [DataW.trod] at hr
 |succ fuel=>
  simp only [DataW.trod,hu] at hr
  cases c<;>simp only at hr<;>try (cases hr;done)
  rename_i k' n
  split at hr
  ·rename_i hk
   obtain ⟨rfl,hwf⟩:=hk
   have:=bounds_u64 hwf
   refine ⟨UInt64.ofNat n.toNat,?_⟩
   simp only [fP,UInt64.toNat_ofNat']
   congr 1
   omega
  ·cases hr
theorem tn:∀ (k fuel:Nat) (T:TypeId) (y:Ty) (cs:List Value) (d:DataW H) (ps:List MemPlace),uc te k T y=true->cs.length=y.size->DataW.trod enc P w 0 sp true fuel T cs=some (d,ps)->
 (∀ n ∈ d.weights P T,n<=reachBytes)->∃ x,Rep (Jb w) y x cs
 |0,_,_,_,_,_,_,h,_,_,_=>by simp [uc] at h
 |k+1,0,_,_,_,_,_,_,_,h,_=>by simp [DataW.trod] at h
 |k+1,fuel+1,T,y,cs,d,ps,h,hl,hr,hw=>by
  simp only [uc] at h
  split at h
  ·cases h
  ·rename_i ti hT
   obtain ⟨ds,hu,hd⟩:=(hte T ti hT).desc
   have hcells:=ic hte hT
   simp only [DataW.trod,hu] at hr
   split at h
   ·--bool
    rename_i he
    rw [he] at hd
    simp only at hd
    subst hd
    match cs,hl with
    | [c],hl1=>
     cases c<;>simp only [Option.some.injEq] at hr<;>try (cases hr;done)
     exact ⟨_,rfl⟩
   ·rename_i he
    rw [he] at hd
    simp only at hd
    subst hd
    match cs,hl with
    | [c],hl1=>
     cases c<;>simp only at hr<;>try (cases hr;done)
     rename_i k' n
     split at hr
     ·rename_i hk
      obtain ⟨rfl,hwf⟩:=hk
      have:=bounds_u64 hwf
      refine ⟨UInt64.ofNat n.toNat,?_⟩
      simp only [Rep,fP,UInt64.toNat_ofNat']
      congr 2
      omega
     ·cases hr
   ·rename_i he
    rw [he] at hd
    simp only at hd
    subst hd
    match cs,hl with
    | [c],hl1=>
     cases c<;>simp only at hr<;>try (cases hr;done)
     rename_i k' n
     split at hr
     ·rename_i hk
      obtain ⟨rfl,hwf⟩:=hk
      have:=bounds_u8 hwf
      refine ⟨UInt8.ofNat n.toNat,?_⟩
      simp only [Rep,vu8,UInt8.toNat_ofNat']
      congr 2
      omega
     ·cases hr
   ·rename_i he
    rw [he] at hd
    simp only at hd
    subst hd
    match cs,hl with
    | [c],hl1=>
     cases c<;>simp only at hr<;>try (cases hr;done)
     rename_i k' n
     split at hr
     ·rename_i hk
      obtain ⟨rfl,hwf⟩:=hk
      have:=bounds_i64 hwf
      exact ⟨n,rfl,bF (by omega)⟩
     ·cases hr
   ·rename_i he
    rw [he] at hd
    simp only at hd
    subst hd
    match cs,hl with
    | [c],hl1=>
     cases c<;>simp only at hr<;>try (cases hr;done)
     rename_i s
     split at hr
     ·cases hr
      refine ⟨s.data.toList,?_⟩
      have:=hw s.data.toList.length (by simp [DataW.weights])
      unfold reachBytes at this
      simp only [Rep]
      exact ⟨trivial,by unfold cw;omega⟩
     ·cases hr
   ·--four words
    rename_i m e he
    rw [he] at hd
    simp only at hd
    subst hd
    simp only [Bool.and_eq_true] at h
    obtain ⟨h1,h2,h3⟩:=h
    split at h1
    ·rename_i ei hei
     rw [Bool.and_eq_true] at h1
     obtain ⟨h4,h5⟩:=h1
     split at h4
     ·rename_i hed
      have h2:=Nat.eq_of_beq_eq_true h2
      have h5:=Nat.eq_of_beq_eq_true h5
      subst h2
      obtain ⟨de,hue,hde⟩:=(hte e ei hei).desc
      rw [hed] at hde
      simp only at hde
      subst hde
      have hl4:cs.length=4:=hl
      simp only at hr
      rw [if_pos (by rw [hcells];rw [hl4];exact (Nat.eq_of_beq_eq_true h3).symm)] at hr
      simp only [Option.map_eq_some_iff] at hr
      obtain ⟨xs,hm,hx⟩:=hr
      obtain ⟨m1,m2⟩:=sj hm
      rw [List.length_range] at m1
      match cs,hl4 with
      | [c0,c1,c2,c3],hl1=>
       have key:∀ i (hi:i<4),∃ x:UInt64,[c0,c1,c2,c3][i]=fP x:=λi hi=>by
        have:=m2 i (by simpa using hi) (by omega)
        rw [List.getElem_range,ic hte hei,h5,Nat.mul_one] at this
        have e2:([c0,c1,c2,c3].drop i).take 1= [[c0,c1,c2,c3][i]]:=by
         rw [List.drop_eq_getElem_cons (by simpa using hi)]
         rfl
        rw [e2] at this
        exact alJ hue this
       obtain ⟨x0,k0⟩:=key 0 (by omega)
       obtain ⟨x1,k1⟩:=key 1 (by omega)
       obtain ⟨x2,k2⟩:=key 2 (by omega)
       obtain ⟨x3,k3⟩:=key 3 (by omega)
       simp only [List.getElem_cons_zero,List.getElem_cons_succ] at k0 k1 k2 k3
       exact ⟨⟨x0,x1,x2,x3⟩,by simp only [Rep,k0,k1,k2,k3]⟩
     ·cases h4
    ·cases h1
   ·--an array
    rename_i m e k' t he
    rw [he] at hd
    simp only at hd
    subst hd
    simp only [Bool.and_eq_true] at h
    obtain ⟨h1,h2,h3,h4⟩:=h
    have h1:=Nat.eq_of_beq_eq_true h1
    subst h1
    obtain ⟨ei,hei,hs⟩:=rE h2
    have hl':cs.length=m*t.size:=hl
    simp only at hr
    rw [if_pos (by rw [hcells,hl'];exact (Nat.eq_of_beq_eq_true h3).symm)] at hr
    simp only [Option.map_eq_some_iff] at hr
    obtain ⟨xs,hm,hx⟩:=hr
    cases hx
    have key:=af2 (go:=λ_ _=>true) hte hei hs (λc d ps h1 h2 h3=>tn k fuel e t c d ps h4 h1 h2 h3) hl' hm (λn hn=>hw n (by simp only [DataW.weights,hu];exact hn))
    obtain ⟨l,l1,l2⟩:=sy (d:=t.d) m key
    exact ⟨l,hl',l1,l2⟩
   ·--a slice
    rename_i e t he
    rw [he] at hd
    simp only at hd
    subst hd
    rw [Bool.and_eq_true] at h
    obtain ⟨h1,h4⟩:=h
    split at h1
    ·rename_i ei hei
     simp only [Bool.and_eq_true] at h1
     obtain ⟨h1,h2,h3⟩:=h1
     have hs:=Nat.eq_of_beq_eq_true h1
     have hpos:=cJ h2
     have hby:=cJ h3
     match cs,hl with
     | [c],hl1=>
      cases c<;>try (exfalso;simp at hr;done)
      rename_i ad len cap
      cases ad with
      |none=>
       rcases len with _|len
       ·rcases cap with _|cap
        ·exact ⟨[],by simp only [Rep];exact ⟨Nat.zero_le _,none,0,rfl,Nat.le_refl _,.inl trivial⟩⟩
        ·cases hr
       ·cases hr
      |some a=>
       simp only at hr
       split at hr
       ·rename_i hcond
        obtain ⟨_,hlc,_⟩:=hcond
        simp only [Option.bind_eq_some_iff,Option.map_eq_some_iff] at hr
        obtain ⟨elems,hm,rest,_,hx⟩:=hr
        cases hx
        obtain ⟨m1,m2⟩:=sj hm
        rw [List.length_range] at m1
        have hwt:=hw ((elems.length+rest.length)*P.bytesOf e) (by simp [DataW.weights,hu])
        rw [G5 hte hei] at hwt
        have hlen:len<=cw:=by
         have:elems.length<=(elems.length+rest.length)*ei.bytes:=Nat.le_trans (Nat.le_add_right _ _) (Nat.le_mul_of_pos_right _ hby)
         unfold reachBytes at hwt
         unfold cw
         omega
        rcases Nat.eq_zero_or_pos len with h0|h0
        ·subst h0
         exact ⟨[],by simp only [Rep];exact ⟨Nat.zero_le _,_,_,rfl,Nat.zero_le _,.inl trivial⟩⟩
        ·have key:∀ i,i<len->∃ c,w.cells? 0 (a.add (i*t.size)) t.size=some c/\∃ x,Rep (Jb w) t x c:=λi hi=>by
          have:=m2 i (by simpa using hi) (by omega)
          rw [List.getElem_range,ic hte hei,hs] at this
          obtain ⟨c,hc,hrr⟩:=Option.bind_eq_some_iff.1 this
          refine ⟨c,hc,tn k fuel e t c (elems[i]'(by omega)).1 (elems[i]'(by omega)).2 h4 ?_ hrr λn hn=>hw n ?_⟩
          ·obtain ⟨arr,E,fz,_,_,hle,rfl⟩:=JJ (by omega) hc
           exact eZ (by simpa using hle)
          ·simp only [DataW.weights,hu,List.mem_cons,List.mem_append]
           exact .inr (.inl (kS (List.mem_map.2 ⟨elems[i]'(by omega),List.getElem_mem _,rfl⟩) n hn))
         obtain ⟨c0,hc0,_⟩:=key 0 h0
         rw [Nat.zero_mul] at hc0
         obtain ⟨arr,E,fz,hb,hsp,_,_⟩:=JJ (by omega) hc0
         have hb':w.heap[a.block]? =some (.cells arr E fz):=hb
         have hsp':a.spot=none:=hsp
         have at_i:∀ i,i<len->a.off+i*t.size+t.size<=arr.size/\∃ x,Rep (Jb w) t x (seg arr.toList (a.off+i*t.size) t.size):=λi hi=>by
          obtain ⟨c,hc,x,hx⟩:=key i hi
          obtain ⟨arr2,E2,fz2,hb2,_,hle,rfl⟩:=JJ (by omega) hc
          have hblk:(a.add (i*t.size)).block=a.block:=by unfold Addr.add;split<;>rfl
          have hoff:(a.add (i*t.size)).off=a.off+i*t.size:=by
           unfold Addr.add
           split
           ·rename_i h;rw [h];rfl
           ·rfl
          rw [hblk,hb'] at hb2
          cases hb2
          rw [hoff] at hle hx
          exact ⟨hle,x,hx⟩
         obtain ⟨l,l1,l2⟩:=sy (d:=t.d) len λi hi=>(at_i i hi).2
         refine ⟨l,?_⟩
         simp only [Rep]
         refine ⟨by omega,some a,cap,by rw [l1],by omega,.inr ⟨a.block,a.off,arr,E,fz,?_,hb',?_,λi hi=>l2 i (by omega)⟩⟩
         ·obtain ⟨blk,off,spot⟩:=a
          simp only at hsp'
          rw [hsp']
         ·have:=(at_i (len-1) (by omega)).1
          have e2:(len-1)*t.size+t.size=len*t.size:=by
           rw [<-Nat.succ_mul]
           congr 1
           omega
          rw [l1]
          omega
       ·cases hr
    ·cases h1
   ·--a struct
    rename_i y _ _ fs he
    rw [he] at hd
    simp only at hd
    obtain ⟨fields,rfl,hf,_⟩:=hd
    rw [Bool.and_eq_true] at h
    have hsz:=Nat.eq_of_beq_eq_true h.1
    simp only at hr
    rw [if_pos (by rw [hcells,hl];exact hsz.symm)] at hr
    simp only [Option.map_eq_some_iff] at hr
    obtain ⟨xs,hm,hx⟩:=hr
    cases hx
    have h2:=h.2
    rw [<-hf] at h2
    have:=GJ hte (go:=uc te k) (cs:=cs) (λT y c d ps a b c' d'=>tn k fuel T y c d ps a b c' d') fields.toList 0 y xs h2 (by omega) hm (λn hn=>hw n (by simp only [DataW.weights,hu];exact hn))
    simpa using this
   ·cases h
end
end Sx
end Go.Proofs.YtohjofabochgfaaGreat

namespace Go.Proofs.YtohjofabochgfaaGreat
namespace Sx
open Go Go.RowKit Go.ChangeShapes Go.WideShapes Go.ChangeAt
def af3 (te:TE) (k:Nat):List TypeId->List (Bool×Ty)->Bool
 | [],[]=>true
 |T::ts,(b,y)::r=>(match te T with
  |some ti=>(b==ti.desc.agg)&&Nat.beq ti.size y.size
  |none=>false)&&(uc te k T y&&af3 te k ts r)
 |_,_=>false
section
variable {H:Type} {enc:TypeId×Value->H} {P:Program} {te:TE} (hte:kN P te) {w:World} {sp:Nat->Bool}
include hte
theorem ajk {k:Nat} {T:TypeId} {y:Ty} {ti:TI} {v:Value} {d:DataW H} {ps:List MemPlace} (hT:te T=some ti) (hs:ti.size=y.size) (hp:uc te k T y=true) {base:Nat} (hok:Value.okWide P w .any base T v)
 (h:DataW.Trod enc P w 0 sp true T v d ps) (hw:∀ n ∈ d.weights P T,n<=reachBytes):∃ x:y.T,SV.rel (eX w) (inj ti.desc.agg y x) v:=by
 obtain ⟨fuel,hf⟩:=h
 obtain ⟨ds,hu,hd⟩:=(hte T ti hT).desc
 cases hagg:ti.desc.agg
 ·have hone:v.cells.toList= [v]/\v.oneCell'=true:=by
   have hc:Cell.okWide P w .any base T v:=by
    unfold Value.okWide at hok
    rw [hu] at hok
    cases ds<;>first|exact hok|skip
    all_goals (
     cases hk:ti.desc<;>rw [hk] at hd hagg<;>simp only [TD.agg] at hd hagg<;>
      first|(cases hagg;done)|(cases hd;done)|(obtain ⟨e,he⟩:=hd;cases he;done)|(obtain ⟨⟨e,he⟩,_⟩:=hd;cases he;done)|exact absurd hd id)
   unfold Cell.okWide Cell.ok at hc
   rw [hu] at hc
   cases v<;>first|exact ⟨rfl,rfl⟩|(exfalso;cases ds<;>first|exact hc|(simp at hc;done))
  rw [hone.1] at hf
  have hsz:y.size=1:=by rw [<-hs];exact (hte T ti hT).one hagg
  obtain ⟨x,hx⟩:=tn hte k fuel T y [v] d ps hp (by rw [hsz];rfl) hf hw
  refine ⟨x,?_⟩
  have hr:=e8 (R:=eX w) y x [v] hx
  simp only [inj,nB,Bool.false_eq_true,if_false]
  have hl:=fR y x
  rw [hsz] at hl
  match hc:unpack y x,hl with
  | [u],_=>
   rw [hc] at hr
   obtain ⟨v',e,h⟩:=cm hr
   cases e
   exact h
 ·have hv:∃ cs,v=.agg cs/\cs.size=P.cellsOf T:=by
   unfold Value.okWide at hok
   rw [hu] at hok
   cases hk:ti.desc<;>rw [hk] at hd hagg<;>simp only [TD.agg] at hd hagg<;>try (cases hagg;done)
   ·obtain ⟨fields,rfl,_⟩:=hd
    obtain ⟨cs,h1,h2,_⟩:=hok
    exact ⟨cs,h1,h2⟩
   ·subst hd
    obtain ⟨cs,h1,h2,_⟩:=hok
    exact ⟨cs,h1,h2⟩
  obtain ⟨cs,rfl,hsz⟩:=hv
  obtain ⟨x,hx⟩:=tn hte k fuel T y cs.toList d ps hp (by rw [Array.length_toList,hsz,ic hte hT,hs]) hf hw
  exact ⟨x,uw (e8 (R:=eX w) y x _ hx) (m7 _ _ _ hx)⟩
theorem Mk {k base:Nat}:∀ {ts:List TypeId} {kd:List (Bool×Ty)} {vs:List Value} {ds:List (DataW H)} {ps:List MemPlace},af3 te k ts kd=true->
 (∀ (j:Nat) t v,ts[j]? =some t->vs[j]? =some v->Value.okWide P w .any base t v)->DataW.TrodAll enc P w 0 sp true ts vs ds ps->(DataW.weightsEach P ts ds).all (· <=reachBytes)=true->
 ∃ x:ATy kd,SV.bM (eX w) (ajO kd x) vs
 | [],[],[],[],_,_,_,_,_=>⟨(),by simp only [ajO,SV.bM]⟩
 | [],[],v::vs,_,_,_,_,h,_=>by simp [DataW.TrodAll] at h
 | [],[],[],d::ds,_,_,_,h,_=>by simp [DataW.TrodAll] at h
 | [],a::kd,_,_,_,h,_,_,_=>by simp [af3] at h
 |T::ts,[],_,_,_,h,_,_,_=>by simp [af3] at h
 |T::ts,(b,y)::kd,[],_,_,_,_,h,_=>by simp [DataW.TrodAll] at h
 |T::ts,(b,y)::kd,v::vs,[],_,_,_,h,_=>by simp [DataW.TrodAll] at h
 |T::ts,(b,y)::kd,v::vs,d::ds,ps,h,hok,ht,hw=>by
  obtain ⟨p,q,h1,h2,rfl⟩:=ht
  simp only [af3,Bool.and_eq_true] at h
  obtain ⟨hb,hp,hr⟩:=h
  split at hb
  ·rename_i ti hT
   rw [Bool.and_eq_true] at hb
   have e1:b=ti.desc.agg:=by simpa using hb.1
   subst e1
   simp only [DataW.weightsEach,List.all_append,Bool.and_eq_true] at hw
   obtain ⟨x,hx⟩:=ajk hte hT (Nat.eq_of_beq_eq_true hb.2) hp (hok 0 T v rfl rfl) h1 λn hn=>by simpa using List.all_eq_true.1 hw.1 n hn
   obtain ⟨xs,hxs⟩:=Mk hr (λj t u h1 h2=>hok (j+1) t u h1 h2) h2 hw.2
   exact ⟨(x,xs),by simp only [ajO,SV.bM];exact ⟨v,vs,rfl,hx,hxs⟩⟩
  ·cases hb
end
theorem aip {S:aq} {pre:S.T->Bool} {F:S.T->OT S.Y} {args:List SV} {X:S.T} {out:Out} (hp:S.inp.prj ⟨args,ajn⟩=some X) (hpre:pre X=true)
 (hr:((F X).bind λoy=>S.emit (S.inp.bd ⟨args,ajn⟩) 0 ajn oy.1 oy.2).run=some out):((S.aI pre F).f 0 args ajn).run=some out:=by
 simp only [aq.aI,hp,hpre]
 exact hr
theorem Hg {H:Type} {enc:TypeId×Value->H} {P:Program} {w w':World} (hl:laidOutB P=true) (hb:Below w.heap.size w w'):∀ {ts:List TypeId} {vs:List Value} {ds:List (DataW H)} {ps:List MemPlace},
 ts.all (λt=>P.readableRec t&&Nat.blt t P.types.size)=true->DataW.TrodAll enc P w 0 (λ_=>true) true ts vs ds ps->DataW.TrodAll enc P w' 0 (λb=>decide (b<w.heap.size)) true ts vs ds ps
 | [],[],[],_,_,h=>h
 | [],v::vs,_,_,_,h=>by simp [DataW.TrodAll] at h
 | [],[],d::ds,_,_,h=>by simp [DataW.TrodAll] at h
 |T::ts,[],_,_,_,h=>by simp [DataW.TrodAll] at h
 |T::ts,v::vs,[],_,_,h=>by simp [DataW.TrodAll] at h
 |T::ts,v::vs,d::ds,ps,hr,h=>by
  obtain ⟨p,q,h1,h2,rfl⟩:=h
  simp only [List.all_cons,Bool.and_eq_true] at hr
  have lt1:∀ x ∈ p,x.block<w.heap.size:=by obtain ⟨m,hm⟩:=h1;exact DataW.trod_lt m _ _ _ hm
  exact ⟨p,q,Below.trod hl hr.1.1 (cJ hr.1.2) h1 hb lt1,Hg hl hb hr.2 h2,rfl⟩
end Sx
end Go.Proofs.YtohjofabochgfaaGreat

namespace Go.Proofs.YtohjofabochgfaaGreat
namespace Sx
open Go
theorem ale {P:Program} {f:FuncId} {S:aq} {k:Nat} (hk:S.chunks.all (λc=>Nat.blt c.1 k&& !c.2.uE)=true) {pre:S.T->Bool} {F:S.T->OT S.Y}
 (h:∀ (x:S.T) (oy:S.Y) (vs:List Value) (N:Ctx) (w:World),pre x=true->(F x).run=some oy->SV.bM N (S.inp.inj x).tm vs->
  ∃ v u,(callFunc f vs.toArray).run P w=.ok (.value u) w/\SV.rel N v u/\oy.1.is oy.2 false v (dD S.chunks x.2)):ac P f (S.aI pre F):=by
 refine ⟨?_⟩
 intro R w d args vs out hm hr hrun
 simp only [aq.aI] at hrun
 split at hrun
 ·cases hrun
 ·rename_i x hx
  obtain ⟨hpre,h2⟩:=OT.aD hrun
  obtain ⟨oy,h3,h4⟩:=OT.run_bind h2
  unfold aq.emit at h4
  dsimp only at h4
  obtain ⟨hend,h5⟩:=OT.aD h4
  have hx':=hx
  unfold Shape.prj at hx'
  dsimp only at hx'
  cases hbo:S.inp.EP ⟨args,R.hp⟩ (S.inp.bd ⟨args,R.hp⟩)&&Nat.beq args.length S.inp.n
  ·rw [hbo] at hx';cases hx'
  ·rw [hbo] at hx'
   rw [Bool.and_eq_true] at hbo
   obtain ⟨hx1,hx2⟩:=bx hx'
   have hlen:args.length=S.inp.n:=Nat.eq_of_beq_eq_true hbo.2
   have hN:=IE (s:=S.inp) (st:=⟨args,R.hp⟩) (F':=R.y9 (S.inp.bd ⟨args,R.hp⟩) S.bD w) (U':=R.E4 (S.inp.bd ⟨args,R.hp⟩) S.bD w) hbo.1 hx2 rfl hm (ME hm) (I7 hm) aei (MD hm) MC ak6 hm.env
   have hargs:SV.bM (R.named (R.y9 (S.inp.bd ⟨args,R.hp⟩) S.bD w) (R.E4 (S.inp.bd ⟨args,R.hp⟩) S.bD w) (S.inp.bd ⟨args,R.hp⟩) (dD S.chunks x.2)) (S.inp.inj x).tm vs:=
    kx (s:=S.inp) (st:=⟨args,R.hp⟩) hbo.1 hx2 rfl hm (ME hm) (I7 hm) hr hx1 (SV.wj (by rw [List.length_replicate,<-hlen];exact SV.aP hr) λi hi hi'=>by simp [SV.rel])
   obtain ⟨v,u,hv,hru,his⟩:=h x oy vs _ w hpre h3 hargs
   obtain ⟨R',a1,a2⟩:=aeK hm hx hk (Ctx.Ext.refl _) hN hru his hend
   rw [his.1] at h5
   cases h5
   exact .inr ⟨u,w,hv,u,R',rfl,a1,a2⟩
end Sx
end Go.Proofs.YtohjofabochgfaaGreat

namespace Go.Proofs.YtohjofabochgfaaGreat
namespace Sx
open Go
def Out.after (u:List (Nat×Ch)):Out->Out
 |.ret e=>.ret ⟨e.v,u++e.upd⟩
 |.pan v u'=>.pan v (u++u')
theorem eD.trans {R R1 R2:Ctx} {w w':World} {u u':List (Nat×Ch)} (h:eD R R1 w u) (h':eD R1 R2 w' u'):eD R R2 w' (u++u'):=
 ⟨h.ext.trans h'.ext,by rw [h'.hp,h.hp,fK],h'.mem⟩
end Sx
end Go.Proofs.YtohjofabochgfaaGreat
