/- A symbolic machine for Go code over plain data, and functions of the program as it shows them. No statement is proved in this file. -/
import Derived.ProofKit
import Derived.Below
import Derived.OpenShut
import Derived.SizedLaws
import Derived.WalkKit
import Derived.ChangeOld
import Derived.Test.YthnnknnbfhkomaaGreatXa
set_option linter.unusedSimpArgs false
set_option linter.unusedVariables false
set_option linter.unusedSectionVars false
namespace Go.Proofs.YthnnknnbfhkomaaGreat
section
namespace Sx
open Go
def ik (R:Ctx):Out->Ending->World->Prop
 |.ret e,en,w'=>∃ v R',en=.returned v/\dD R R' w' e.upd/\SV.rel R' e.v v
 |.pan sv u,en,w'=>∃ v R',en=.panicked [{v,recovered:=false}]/\dD R R' w' u/\SV.rel R' sv v
def aG0 (P:Program) (f:FuncId) (vs:Array Value) (w:World) (Q:Ending->World->Prop):Prop:=
 (∃ fn,P.funcs[f]? =some fn/\(fn.name== "runtime.NumGoroutine")=false/\fn.body.isNone=false/\Calls P f vs w Q)\/
 ∃ v w',(callFunc f vs).run P w=.ok (.value v) w'/\Q (.returned v) w'
structure aa (P:Program) (f:FuncId) (s:bi):Prop where
 calls:∀ (R:Ctx) (w:World) (d:Nat) (args:List SV) (vs:List Value) (out:Out),cu R w->SV.bx R args vs->(s.f d args R.hp).run=some out->aG0 P f vs.toArray w (ik R out)
def nW (P:Program) (Φ:Env):Prop:=∀ f s,Φ f=some s->aa P f s
section
variable {P:Program} {R:Ctx} {w:World}
theorem V6 {x:SV} {i:Int} {v:Value} (h:idxOf x=some i) (hx:SV.rel R x v):∃ kd,v=.int kd i:=by
 unfold idxOf at h
 split at h
 ·grind [SV.rel]
 ·cases h
  exact ⟨_,hx⟩
 ·cases h
  exact ⟨_,hx⟩
 grind
theorem alG:∀ {ms:List (String×FuncId)} {name:String} {f:FuncId},agv ms name=some f->(name,f) ∈ ms
 :=by intro t;induction t<;>grind [agv,List.mem_cons_of_mem,List.mem_cons_self]
theorem alF {te:TE} (hte:kH P te) {t:TypeId} {name:String} {f:FuncId} (h:aqN te t name=some f) (y:Value) (n:Nat) (hn:n=P.types.size+Made.depth):(method n t y name).run P w=.ok (f,y) w:=by
 unfold aqN at h
 split at h
 ·rename_i sz by' ms ze ty hT
  obtain ⟨d,hu,hd⟩:=(hte t _ hT).desc
  obtain ⟨⟨e,rfl⟩,hm⟩:=hd
  obtain ⟨i,m,h1,h2,h3,h4⟩:=hm _ (alG h)
  subst hn
  have hfuel:P.types.size+Made.depth=(P.types.size+Made.depth-1)+1:=by
   rfl
  rw [hfuel]
  simp [method,typeInfo,h1,h2,h3,h4,follow,receiverAt,run_underlying hu,Place.get]
 grind
theorem j6 {st:St} {a:Act} (h:iF R st a w) (x:Operand):SV.rel R (st.eval x) (a.eval x):=by
 cases x with
 |tmp t=>
  simp [St.eval,Act.eval]
  have hl:=SV.aJ h.tm
  by_cases ht:t<st.tm.length
  ·have ht':t<a.tmps.size:=by grind
   have:=SV.mT h.tm t ht (by omega)
   grind
  grind [SV.rel]
 |const v=>
  simp only [St.eval,Act.eval,aDI]
  split
  ·grind [SV.rel,xo,fX]
  simp [Mw]
 |global g=>simp [St.eval,SV.rel]
 |func f=>
  simp [St.eval,Act.eval,SV.rel,SV.bx]
theorem Qy {α β:Type} (f:α->β) (xs:Array α):Array.map f xs=(xs.toList.map f).toArray:=by grind
theorem Hy {st:St} {a:Act} (h:iF R st a w):∀ (l:List Operand),SV.bx R (l.map st.eval) (l.map a.eval)
 | []=>by rfl
 |x::l=>by
  exact ⟨_,_,rfl,j6 h x,Hy h l⟩
theorem U3 {st:St} {a:Act} (h:iF R st a w) (ps:Array (Nat×Operand)):Sv R (ps.toList.map λp=>(p.1,st.eval p.2)) (ps.map λ(i,x)=>(i,a.eval x)).toList:=by
 refine ⟨by simp,λi hi hi'=> ?_⟩
 grind [j6]
theorem bD {x:OT SV} {o:Out} (h:(iQ x).run=some o):∃ z,x.run=some z/\o=.ret ⟨z,[]⟩:=by
 obtain ⟨z,h1,h2⟩:=OT.run_map h
 grind
theorem qE {x:OT Eff} {o:Out} (h:(eff x).run=some o):∃ e,x.run=some e/\o=.ret e:=by
 obtain ⟨z,h1,h2⟩:=OT.run_map h
 grind
def auT (R:Ctx) (a:Act) (dst:Option Tmp) (out:Out) (next:Act->World->Prop) (Q:Exit->Act->World->Prop):Prop:=
 match out with
 |.ret e=>∀ R' w' v,dD R R' w' e.upd->SV.rel R' e.v v->next (a.put dst v) w'
 |.pan sv u=>∀ R' w' v,dD R R' w' u->SV.rel R' sv v->Q (.panic [{v,recovered:=false}]) a w'
theorem ej {o:Oper} {a:Act} {z:SV} {next:Act->World->Prop} {Q:Exit->Act->World->Prop} {s:Sem Value} (hm:cu R w) (hs:execOp a.eval o=do pure (.value (<-s))) (h:kQ P R w s z)
 (hn:auT R a o.dst (.ret ⟨z,[]⟩) next Q):o.wp P a w next Q:=by
 obtain ⟨v,h1,h2⟩:=h
 unfold Oper.wp
 rw [hs]
 simp [h1]
 exact hn R w v (dD.nothing hm) h2
theorem mQ {o:Oper} {a:Act} {e:Eff} {next:Act->World->Prop} {Q:Exit->Act->World->Prop} {s:Sem Value} (hs:execOp a.eval o=do pure (.value (<-s))) (h:Lg P R w s e)
 (hn:auT R a o.dst (.ret e) next Q):o.wp P a w next Q:=by
 obtain ⟨v,w',R',h1,h2,h3⟩:=h
 unfold Oper.wp
 rw [hs]
 simp [h1]
 exact hn R' w' v h2 h3
theorem AV (hm:cu R w) {te:TE} (hte:kH P te) {T:TypeId} {ti:TI} (hT:te T=some ti) {x:SV} {v:Value} {cs:List SV} (hx:SV.rel R x v) (h:(Sx.loadCells R.hp ti.size x).run=some cs):
 ∃ ad,v=.pointer (some ad)/\kQ P R w (loadVar T ad) (rF ti.desc.agg cs):=by
 have ht:=hte T ti hT
 obtain ⟨b,o,arr,E,fz,rfl,hb,hsz,hr,hone⟩:=IQ hm hx h
 refine ⟨_,rfl,?_⟩
 cases ha:ti.desc.agg
 ·have h1:=ht.one ha
  rw [h1] at hsz hr
  refine ⟨arr[o],?_,aqM hsz hr⟩
  simp only [loadVar,Sem.run_bind,ht.Hr w,ha]
  exact T8 hb hsz
 ·refine ⟨_,?_,AR hr hone⟩
  simp [loadVar,ht.Hr w,ha,ht.run_sizeOf w,EF hb hsz]
theorem wk (hm:cu R w) {te:TE} (hte:kH P te) {T:TypeId} {ti:TI} (hT:te T=some ti) {x y:SV} {v u:Value} {l:List SV} {up:List (Nat×Ch)} (hx:SV.rel R x v) (hy:SV.rel R y u) (hl:y.cells=some l)
 (hsz:l.length=ti.size) (h:(Sx.storeCells R.hp l x).run=some up):∃ ad w' R',v=.pointer (some ad)/\(storeVar T ad u).run P w=.ok () w'/\dD R R' w' up:=by
 have ht:=hte T ti hT
 obtain ⟨vs,h1,h2,h3⟩:=Hz hy hl
 have hlen:=SV.aJ h2
 obtain ⟨ad,w',R',rfl,h4,h5⟩:=FA (P:=P) hm hx h2 h
 refine ⟨ad,w',R',rfl,?_,h5⟩
 simp [storeVar,ht.run_sizeOf w]
 grind
theorem lR {te:TE} {Φ:Env} (hte:kH P te) (hΦ:nW P Φ) {st:St} {a:Act} {o:Oper} {d:Nat} {out:Out} (hst:iF R st a w) (h:(Ly te Φ st.hp d st.eval o.op).run=some out)
 {next:Act->World->Prop} {Q:Exit->Act->World->Prop} (hn:auT R a o.dst out next Q):o.wp P a w next Q:=by
 have hm:=hst.mem
 have ev:=j6 hst
 rw [<-hst.hp] at h
 obtain ⟨dst,op,type,pos,after,guard⟩:=o
 simp only at h hn
 cases op<;>simp only [Ly] at h<;>try (cases h;done)
 case move x=>
  obtain ⟨z,h1,rfl⟩:=bD h
  cases h1
  exact hn R w _ (dD.nothing hm) (ev x)
 case assign x=>
  obtain ⟨z,h1,rfl⟩:=bD h
  cases h1
  exact hn R w _ (dD.nothing hm) (ev x)
 case pick c x y=>
  split at h
  ·rename_i b hb
   obtain ⟨z,h1,rfl⟩:=bD h
   have hc:=ev c
   rw [hb] at hc
   simp only [SV.rel] at hc
   have hrun:(execOp a.eval (Oper.mk dst (.pick c x y) type pos after guard)).run P w=.ok (.value (if b then a.eval x else a.eval y)) w:=by
    simp [execOp,hc,asBool]
   unfold Oper.wp
   rw [hrun]
   cases b
   ·cases h1;exact hn R w _ (dD.nothing hm) (ev y)
   ·cases h1;exact hn R w _ (dD.nothing hm) (ev x)
  ·cases h
 case alloc T=>
  split at h
  ·rename_i ti hT
   obtain ⟨e,h1,rfl⟩:=qE h
   have ht:=hte T ti hT
   obtain ⟨i,z,z1,z2,z3,z4,z5,z6,z7⟩:=ht.um (R:=R)
   obtain ⟨ad,w',R',r1,r2,r3⟩:=ER (P:=P) hm (v:=z) (vs:=z.cells.toList) (by simp) z5 z7 (by have:=ht.small;simp [z6,cE];omega) h1
   refine mQ rfl ⟨_,w',R',?_,r2,r3⟩ hn
   simp only [Instr.alloc,Sem.run_bind,zeroValue,typeInfo,run_program,Result.andThen_ok,z1,z4,Sem.run_pure,r1]
  ·cases h
 case box T x=>
  split at h
  ·rename_i l hl
   obtain ⟨e,h1,rfl⟩:=qE h
   obtain ⟨vs,v1,v2,v3⟩:=Hz (ev x) hl
   have hlen:=SV.aJ v2
   have hsz:l.length<=16777216:=by
    unfold Sx.newVar at h1
    split at h1
    ·cases h1
    ·rename_i ti hT
     split at h1
     ·cases h1
     ·rename_i hh
      have:=(hte T ti hT).small
      have hh:l.length=ti.size:=by simpa using hh
      omega
   obtain ⟨ad,w',R',r1,r2,r3⟩:=ER (P:=P) hm (v:=a.eval x) (vs:=vs) v1 v2 v3 (by unfold cE;omega) h1
   refine mQ rfl ⟨_,w',R',?_,r2,r3⟩ hn
   simp only [Instr.box,Sem.run_bind,Sem.run_pure,Result.andThen_ok,r1]
  ·cases h
 case build T ps=>
  obtain ⟨z,h1,rfl⟩:=bD h
  exact ej hm rfl (adN hte h1 (U3 hst ps)) hn
 case buildSlice T len ps=>
  obtain ⟨e,h1,rfl⟩:=qE h
  exact mQ rfl (FH hm hte h1 (U3 hst ps)) hn
 case load T x=>
  split at h
  ·rename_i ti hT
   obtain ⟨z,h1,rfl⟩:=bD h
   obtain ⟨cs,h2,rfl⟩:=OT.run_map h1
   obtain ⟨ad,hv,hg⟩:=AV (P:=P) hm hte hT (ev x) h2
   refine ej hm rfl ?_ hn
   obtain ⟨v,g1,g2⟩:=hg
   refine ⟨v,?_,g2⟩
   simp only [Instr.loadAt,hv,Instr.sureAddr,Sem.run_bind,Sem.run_pure,Result.andThen_ok,g1]
  ·cases h
 case store T x y=>
  split at h
  ·rename_i ti hT
   split at h
   ·rename_i l hl
    split at h
    ·rename_i hsz
     obtain ⟨u,h1,rfl⟩:=OT.run_map h
     obtain ⟨ad,w',R',hv,g1,g2⟩:=wk (P:=P) hm hte hT (ev x) (ev y) hl hsz h1
     have hrun:(execOp a.eval (Oper.mk dst (.store T x y) type pos after guard)).run P w=.ok .skip w':=by
      simp only [execOp,Instr.storeAt,hv,Instr.sureAddr,Sem.run_bind,Sem.run_pure,Result.andThen_ok,g1]
     unfold Oper.wp
     rw [hrun]
     exact hn R' w' _ g2 (by simp only [SV.rel])
    ·cases h
   ·cases h
  ·cases h
 case nilCheck x=>
  have hx:=ev x
  have hrun:∀ ad,a.eval x=.pointer (some ad)->(execOp a.eval (Oper.mk dst (.nilCheck x) type pos after guard)).run P w=.ok (.value (a.eval x)) w:=λad hv=>by
   simp [execOp,hv]
  split at h
  ·rename_i c e i off hs
   obtain ⟨z,h1,rfl⟩:=bD h
   cases h1
   rw [hs] at hx
   have hx':=hx
   simp only [SV.rel] at hx
   obtain ⟨⟨ad,hv⟩,_⟩:=hx
   unfold Oper.wp
   rw [hrun ad hv]
   exact hn R w _ (dD.nothing hm) hx'
  ·rename_i t xs i off hs
   obtain ⟨z,h1,rfl⟩:=bD h
   cases h1
   rw [hs] at hx
   have hx':=hx
   simp only [SV.rel] at hx
   obtain ⟨_,b,o,arr,E,fz,hv,_⟩:=hx
   unfold Oper.wp
   rw [hrun _ hv]
   exact hn R w _ (dD.nothing hm) hx'
  ·rename_i t y hs
   obtain ⟨z,h1,rfl⟩:=bD h
   cases h1
   rw [hs] at hx
   have hx':=hx
   simp only [SV.rel] at hx
   obtain ⟨y',hv,_⟩:=hx
   have hrun2:(execOp a.eval (Oper.mk dst (.nilCheck x) type pos after guard)).run P w=.ok (.value (a.eval x)) w:=by simp [execOp,hv]
   unfold Oper.wp
   rw [hrun2]
   exact hn R w _ (dD.nothing hm) hx'
  ·cases h
 case binOp op T x y T2=>
  split at h
  ·rename_i hy
   obtain ⟨z,h1,rfl⟩:=bD h
   have hy':∃ n c,a.eval y=.slice none n c:=by
    unfold Nl at hy
    split at hy
    ·exact ⟨_,_,rfl⟩
    ·cases hy
   obtain ⟨n,c,hyv⟩:=hy'
   obtain ⟨⟨q,l,k,hxv⟩,u,hu1,hu2⟩:=Qg (P:=P) (w:=w) hte h1 (ev x) ⟨n,c,hyv⟩
   exact ej hm rfl ⟨u,gg (X:=x) (Y:=y) (by rw [hxv,hyv];simp [eqGuard]) hu1,hu2⟩ hn
  ·obtain ⟨z,h1,rfl⟩:=bD h
   exact ej hm rfl (X0 hte h1 (ev x) (ev y)) hn
 case sliceToArrayPointer T x=>
  obtain ⟨z,h1,rfl⟩:=bD h
  exact ej hm rfl (Mb hte h1 (ev x)) hn
 case unOp op T x=>
  obtain ⟨z,h1,rfl⟩:=bD h
  exact ej hm rfl (aj0 h1 (ev x)) hn
 case convert src dst' x=>
  split at h
  ·rename_i s hs
   obtain ⟨z,h1,rfl⟩:=bD h
   cases h1
   obtain ⟨u,w',R',r1,r2,r3⟩:=RW (P:=P) hm hte hs (ev x)
   exact mQ rfl ⟨u,w',R',r1,r2,r3⟩ hn
  ·split at h
   ·rename_i hs
    obtain ⟨z,h1,rfl⟩:=qE h
    cases h1
    exact mQ rfl (FF (P:=P) hm hte hs (ev x)) hn
   ·obtain ⟨z,h1,rfl⟩:=bD h
    exact ej hm rfl (RN hte h1 (ev x)) hn
 case makeInterface T x=>
  split at h
  ·rename_i ti hT
   obtain ⟨ds,hu,hd⟩:=(hte T ti hT).desc
   have hmk:∀ y:Value,(Instr.makeInterface T y).run P w=.ok (.iface T y) w\/(match ti.desc with|.iface=>True|.other=>True|_=>False):=λy=>by
    unfold Instr.makeInterface
    simp only [Sem.run_bind,run_underlying hu,Result.andThen_ok]
    cases hk:ti.desc<;>rw [hk] at hd<;>simp only at hd<;>first
     |(exact .inr trivial;done)
     |(left;obtain ⟨_,rfl,_⟩:=hd;rfl)
     |(left;obtain ⟨⟨_,rfl⟩,_⟩:=hd;rfl)
     |(left;subst hd;rfl)
   have hq:¬(match ti.desc with|.iface=>True|.other=>True|_=>False):=λhq=>by
    cases hk:ti.desc<;>rw [hk] at hq h<;>first|exact hq|(simp only at h;cases h)
   have h2:(iQ (.ok (.iface T (st.eval x)))).run=some out:=by
    cases hk:ti.desc<;>rw [hk] at h hq<;>first|exact h|(exact absurd trivial hq)
   obtain ⟨z,h1,rfl⟩:=bD h2
   cases h1
   refine ej hm rfl ⟨.iface T (a.eval x),(hmk _).resolve_right hq,?_⟩ hn
   simp only [SV.rel]
   exact ⟨_,rfl,ev x⟩
  ·cases h
 case makeFunc f first caps=>
  obtain ⟨z,h1,rfl⟩:=bD h
  cases h1
  refine ej hm rfl ⟨_,rfl,?_⟩ hn
  simp only [SV.rel]
  exact ⟨first.toList.map a.eval,caps.toList.map a.eval,by rw [Qy,Qy],Hy hst _,Hy hst _⟩
 case makeSlice T l c=>
  split at h
  ·rename_i l' c' hl hc
   obtain ⟨e,h1,rfl⟩:=qE h
   have e1:=ev l
   have e2:=ev c
   rw [hl] at e1
   rw [hc] at e2
   simp only [SV.rel] at e1 e2
   have:=IH (P:=P) hm hte h1
   rw [<-e1.1,<-e2.1] at this
   exact mQ rfl this hn
  ·cases h
 case slice T x lo hi mx=>
  obtain ⟨z,h1,rfl⟩:=bD h
  have some_rel:∀ (q:Option Operand) (y:SV),q.map st.eval=some y->∃ v,q.map a.eval=some v/\SV.rel R y v:=λq y hy=>by
   cases q with
   |none=>cases hy
   |some u=>cases hy;exact ⟨_,rfl,ev u⟩
  have none_rel:∀ (q:Option Operand),q.map st.eval=none->q.map a.eval=none:=λq hq=>by
   cases q with
   |none=>rfl
   |some u=>cases hq
  exact ej hm rfl (Ps hm hte h1 (ev x) (some_rel lo) (none_rel lo) (some_rel hi) (none_rel hi) (some_rel mx) (none_rel mx)) hn
 case fieldAddr S x f=>
  split at h
  ·rename_i fs _ _ hS
   split at h
   ·rename_i o fi hf
    split at h
    ·cases h
    ·rename_i h0
     obtain ⟨z,h1,rfl⟩:=bD h
     exact ej hm rfl (JV hte hS rfl hf h0 h1 (ev x)) hn
   ·cases h
  ·cases h
 case field S x f=>
  split at h
  ·rename_i fs _ _ l hS hl
   split at h
   ·rename_i o fi hf
    split at h
    ·rename_i hle
     obtain ⟨z,h1,rfl⟩:=bD h
     cases h1
     have hx:=ev x
     rw [hl] at hx
     exact ej hm rfl (acZ hte hS rfl hf hle hx) hn
    ·cases h
   ·cases h
  ·cases h
 case indexAddr T x k=>
  split at h
  ·rename_i i hk
   obtain ⟨z,h1,rfl⟩:=bD h
   obtain ⟨kd,e1⟩:=V6 hk (ev k)
   have:=Jg (P:=P) (w:=w) (kd:=kd) hte h1 (ev x)
   rw [<-e1] at this
   exact ej hm rfl this hn
  ·cases h
 case index T x k=>
  split at h
  ·rename_i i hk
   obtain ⟨z,h1,rfl⟩:=bD h
   obtain ⟨kd,e1⟩:=V6 hk (ev k)
   have:=LU (P:=P) (w:=w) (kd:=kd) hte h1 (ev x)
   rw [<-e1] at this
   exact ej hm rfl this hn
  ·cases h
 case panic x=>
  split at h
  ·rename_i t v hx
   cases h
   have hv:=ev x
   rw [hx] at hv
   have hv':=hv
   simp only [SV.rel] at hv'
   obtain ⟨y,hy,_⟩:=hv'
   unfold Oper.wp
   have hrun:(execOp a.eval (Oper.mk dst (.panic x) type pos after guard)).run P w=.halt (.panic (.iface t y)) w:=by
    simp only [execOp,hy]
    rfl
   rw [hrun,Oper.upon_panic]
   rw [hy] at hv
   exact hn R w _ (dD.nothing hm) hv
  ·cases h
 case extract t i=>
  split at h
  ·rename_i l hl
   split at h
   ·rename_i v hv
    obtain ⟨z,h1,rfl⟩:=bD h
    cases h1
    have hx:=ev t
    rw [hl] at hx
    simp only [SV.rel] at hx
    obtain ⟨vs,he,hr⟩:=hx
    have hlen:=SV.aJ hr
    obtain ⟨hi,hvi⟩:=List.getElem?_eq_some_iff.1 hv
    refine ej hm rfl ⟨vs[i]'(by omega),?_,?_⟩ hn
    ·simp [Instr.extract,he,show i<vs.length by omega]
    ·rw [<-hvi];exact SV.mT hr i hi (by omega)
   ·cases h
  ·cases h
 case call c=>
  obtain ⟨callee,args,argTypes⟩:=c
  simp only at h
  have hargs:=Hy hst args.toList
  have go:∀ (f':FuncId) (s:bi) (us:List SV) (l:List Value),Φ f'=some s->SV.bx R us l->(s.f d us R.hp).run=some out->
   (∀ r,(execOp a.eval (Oper.mk dst (.call {callee:=callee,args,argTypes}) type pos after guard)).run P w=r ↔ (callFunc f' l.toArray).run P w=r)->(Oper.mk dst (.call {callee:=callee,args,argTypes}) type pos after guard).wp P a w next Q:=by
   intro f' s us l hs hr hout hexec
   have hc:=(hΦ _ _ hs).calls R w d us l out hm hr hout
   rcases hc with ⟨fn,f1,f2,f3,hc⟩|⟨v,w',hv,hp⟩
   ·have hrun:(callFunc f' l.toArray).run P w=.ok (.enter f' l.toArray) w:=by
     have f2':¬fn.name= "runtime.NumGoroutine" :=by simpa using f2
     have f3':¬fn.body=none:=λe=>by rw [e] at f3;simp at f3
     simp [callFunc,f1,f2',f3']
    unfold Oper.wp
    rw [(hexec _).2 hrun,Oper.upon_enter]
    refine hc.mono λen w' hp=> ?_
    cases out with
    |ret e=>
     obtain ⟨v,R',rfl,p1,p2⟩:=hp
     exact hn R' w' v p1 p2
    |pan sv u=>
     obtain ⟨v,R',rfl,p1,p2⟩:=hp
     exact hn R' w' v p1 p2
   ·unfold Oper.wp
    rw [(hexec _).2 hv]
    cases out with
    |ret e=>
     obtain ⟨v',R',he,p1,p2⟩:=hp
     cases he
     exact hn R' w' v p1 p2
    |pan sv u=>
     obtain ⟨v',R',he,p1,p2⟩:=hp
     cases he
  split at h
  ·rename_i f
   unfold aty at h
   split at h
   ·rename_i f' first caps hf
    split at h
    ·rename_i s hs
     have hx:=ev f
     rw [hf] at hx
     simp only [SV.rel] at hx
     obtain ⟨l1,l2,he,r1,r2⟩:=hx
     refine go f' s _ (l1++args.toList.map a.eval++l2) hs (SV.bz (SV.bz r1 hargs) r2) h λr=> ?_
     have:(execOp a.eval (Oper.mk dst (.call {callee:=.value f,args,argTypes}) type pos after guard)).run P w=(callFunc f' (l1++args.toList.map a.eval++l2).toArray).run P w:=by
      simp [execOp,resolve,he,Deferred.ofValue,invoke,Qy]
     rw [this]
    ·cases h
   ·cases h
  ·rename_i recv name
   unfold RV at h
   split at h
   ·rename_i t v hv
    split at h
    ·rename_i f' hf
     split at h
     ·rename_i s hs
      have hx:=ev recv
      rw [hv] at hx
      simp only [SV.rel] at hx
      obtain ⟨y,he,hy⟩:=hx
      refine go f' s (v::args.toList.map st.eval) (y::args.toList.map a.eval) hs (by simp only [SV.bx];exact ⟨_,_,rfl,hy,hargs⟩) h λr=> ?_
      have hmeth:=alF (P:=P) (w:=w) hte hf y _ rfl
      have:(execOp a.eval (Oper.mk dst (.call {callee:=.invoke recv name,args,argTypes}) type pos after guard)).run P w=(callFunc f' (y::args.toList.map a.eval).toArray).run P w:=by
       have e1:(Array.map a.eval args)=(args.toList.map a.eval).toArray:=Qy _ _
       have e2:(#[Value.iface t y]++(args.toList.map a.eval).toArray)[0]? =some (.iface t y):=by simp
       have e3:(#[Value.iface t y]++(args.toList.map a.eval).toArray).extract 1 (#[Value.iface t y]++(args.toList.map a.eval).toArray).size=(args.toList.map a.eval).toArray:=by
        apply Array.ext'
        simp only [Array.toList_extract,Array.toList_append,List.extract_eq_take_drop]
        simp
        exact List.take_of_length_le (by simp)
       have e4: #[y]++(args.toList.map a.eval).toArray=(y::args.toList.map a.eval).toArray:=by simp
       simp only [execOp,resolve,he,e1,Sem.run_bind,Sem.run_pure,Result.andThen_ok,invoke,e2,e3,callMethod,run_program,hmeth,e4]
      rw [this]
     ·cases h
    ·cases h
   ·cases h
  ·split at h
   ·rename_i x T Ts hax hat
    obtain ⟨z,h1,rfl⟩:=bD h
    have ha:args= #[x]:=by apply Array.ext';simpa using hax
    have hat':argTypes=(T::Ts).toArray:=by apply Array.ext';simpa using hat
    subst ha
    have:=abI (P:=P) (Tr:=type) (Ts:=Ts) hm hte h1 (ev x)
    rw [<-hat'] at this
    refine ej hm ?_ this hn
    simp [execOp,resolve,invoke,builtin]
   ·cases h
  ·split at h
   ·rename_i s x T T' hax hat
    split at h
    ·rename_i hsl
     obtain ⟨e,h1,rfl⟩:=qE h
     have ha:args= #[s,x]:=by apply Array.ext';simpa using hax
     have hat':argTypes= #[T,T']:=by apply Array.ext';simpa using hat
     subst ha
     subst hat'
     have:=Md (P:=P) (Tr:=type) hm hte hsl h1 (ev s) (ev x)
     refine mQ ?_ this hn
     simp [execOp,resolve,invoke,builtin]
    ·cases h
   ·cases h
  ·split at h
   ·rename_i s x T T' hax hat
    obtain ⟨e,h1,rfl⟩:=qE h
    have ha:args= #[s,x]:=by apply Array.ext';simpa using hax
    have hat':argTypes= #[T,T']:=by apply Array.ext';simpa using hat
    subst ha
    subst hat'
    have:=Xh (P:=P) (Tr:=type) (T':=T') hm hte h1 (ev s) (ev x)
    refine mQ ?_ this hn
    simp [execOp,resolve,invoke,builtin]
   ·cases h
  ·split at h
   ·rename_i x y hax
    split at h
    ·rename_i p q hp hq
     obtain ⟨z,h1,rfl⟩:=bD h
     cases h1
     have ha:args= #[x,y]:=by apply Array.ext';simpa using hax
     subst ha
     have e1:=ev x
     have e2:=ev y
     rw [hp] at e1
     rw [hq] at e2
     simp only [SV.rel] at e1 e2
     refine ej (s:=Builtin.max_ argTypes type #[a.eval x,a.eval y]) hm ?_ ?_ hn
     ·simp [execOp,resolve,invoke,builtin]
     ·refine cz ?_ ?_
      ·simp [Builtin.max_,e1.1,e2.1,Builtin.max2]
      ·split
       ·exact e2.2
       ·exact e1.2
    ·cases h
   ·cases h
  ·cases h
end
end Sx
end
section
namespace Sx
open Go
section
variable {P:Program} {te:TE} {Φ:Env}
structure oX (R₀:Ctx) (K:SE->St->Prop) (Q:Exit->Act->World->Prop):Prop where
 normal:∀ R st a w,R₀.Ext R->iF R st a w->K .normal st->Q .normal a w
 ret:∀ R st a w,R₀.Ext R->iF R st a w->K .ret st->Q .ret a w
 exit:∀ R st a w id,R₀.Ext R->iF R st a w->K (.exit id) st->Q (.exit id) a w
 pan:∀ R st a w sv v,R₀.Ext R->iF R st a w->SV.rel R sv v->K (.pan sv) st->Q (.panic [{v,recovered:=false}]) a w
theorem iF.put {R R':Ctx} {st:St} {a:Act} {w w':World} {e:Eff} {v:Value} (h:iF R st a w) (ha:dD R R' w' e.upd) (hv:SV.rel R' e.v v) (dst:Option Tmp):iF R' (st.put dst e) (a.put dst v) w':=by
 refine ⟨?_,ha.mem,?_,?_⟩
 ·rw [ha.hp,h.hp];rfl
 ·have:=SV.eH ha.ext _ _ h.tm
  cases dst with
  |none=>exact this
  |some d=>
   grind [St.put,CQ,Act.put,Array.toList_setIfInBounds,SV.Am]
 ·rw [ha.ext.U];cases dst<;>exact h.defers
theorem iF.undef {R:Ctx} {st:St} {a:Act} {w:World} (h:iF R st a w) (dst:Option Tmp):iF R (st.put dst ⟨.undef,[]⟩) (a.put dst Go.undef) w:=
 h.put (dD.nothing h.mem) (by rfl) dst
theorem iF.Te {R R':Ctx} {st:St} {a:Act} {w w':World} {u:List (Nat×Ch)} (h:iF R st a w) (ha:dD R R' w' u):iF R' ⟨st.tm,cG st.hp u⟩ a w':=
 ⟨by rw [ha.hp,h.hp],ha.mem,SV.eH ha.ext _ _ h.tm,by rw [ha.ext.U];exact h.defers⟩
theorem fN {R:Ctx} {st:St} {a:Act} {w:World} (h:iF R st a w) {ops:Array Oper} {o:Oper} {b:Bool} (hg:guarded ops.toList st.tm o=some b):Region.wanted o (yielded ops a.tmps)=b:=by
 unfold guarded at hg
 unfold Region.wanted
 split at hg
 ·grind
 ·rename_i j want hj
  rw [hj]
  simp only
  split at hg
  ·rename_i d hd
   have hd':(ops[j]?).bind (·.dst)=some d:=by simpa using hd
   have hl:=SV.aJ h.tm
   have get:st.tm.getD d .fY≠ .fY->∃ hlt:d<a.tmps.size,SV.rel R (st.tm.getD d .fY) a.tmps[d]:=λhne=>by
    by_cases ht:d<st.tm.length
    ·have ht':d<a.tmps.size:=Nat.lt_of_lt_of_eq ht hl.symm
     refine ⟨ht',?_⟩
     have:=SV.mT h.tm d ht (by simpa using ht')
     grind
    grind
   split at hg
   ·rename_i q hq
    obtain ⟨hlt,hr⟩:=get (by rw [hq];exact λe=>by cases e)
    rw [hq] at hr
    simp only [SV.rel] at hr
    have hy:yielded ops a.tmps j=some q:=by
     grind [yielded]
    rw [hy,<-Option.some.inj hg]
    rfl
   ·grind [get,SV.rel,yielded,Go.undef,Option.some.inj]
   ·cases hg
  ·cases hg
theorem lc (hte:kH P te) (hΦ:nW P Φ) {R₀:Ctx} {ops:Array Oper} {K:SE->St->Prop} {Q:Exit->Act->World->Prop} (hK:oX R₀ K Q):
 ∀ (l:List Oper) (R:Ctx) (st:St) (a:Act) (w:World),R₀.Ext R->iF R st a w->gV te Φ ops.toList K l st->wpList P ops Q l a w
 | [],R,st,a,w,hx,hst,h=>hK.normal R st a w hx hst h
 |o::r,R,st,a,w,hx,hst,h=>by
  simp [gV] at h
  split at h
  ·grind
  ·rename_i b hb
   have hw:=fN hst hb
   simp [wpList,hw]
   cases b
   ·exact lc hte hΦ hK r R _ _ w hx (hst.undef o.dst) h
   ·refine .inl ?_
    obtain ⟨out,h1,h2⟩:=OT.GO h
    refine lR hte hΦ hst h1 ?_
    cases out with
    |ret e=>exact λR' w' v ha hv=>lc hte hΦ hK r R' _ _ w' (hx.trans ha.ext) (hst.put ha hv o.dst) h2
    |pan sv u=>exact λR' w' v ha hv=>hK.pan R' _ a w' sv v (hx.trans ha.ext) (hst.Te ha) hv h2
def zI (P:Program) (R₀:Ctx) (b:Code) (l:St->(SE->St->Prop)->Prop):Prop:=
 ∀ (R:Ctx) (st:St) (a:Act) (w:World) (K:SE->St->Prop) (Q:Exit->Act->World->Prop),R₀.Ext R->iF R st a w->l st K->oX R₀ K Q->b.wp P Q a w
def blocks:Code->List (Nat×Code)
 |.seq a b=>blocks a++blocks b
 |.cond _ a b=>blocks a++blocks b
 |.block id c=>(id,c)::blocks c
 |.loop c=>blocks c
 |.scope c=>blocks c
 |_=> []
def rH (P:Program) (R₀:Ctx) (Λ:Lam) (c:Code):Prop:=∀ p ∈ blocks c,∀ l,Λ p.1=some l->zI P R₀ (.block p.1 p.2) l
def FP (P:Program) (te:TE) (Φ:Env):Prop:=∀ (R₀:Ctx) (id:Nat) (ops:Array Oper) (K:SE->St->Prop) (Q:Exit->Act->World->Prop) (R:Ctx) (st:St) (a:Act) (w:World),oX R₀ K Q->R₀.Ext R->iF R st a w->
 eI Φ ops (bitsOf ops)=true->gE te Φ ops.toList (bitsOf ops) (Wf te Φ ops (bitsOf ops) st) K st 0 ops.toList []->(Code.region id ops true).wp P Q a w
theorem O0 {Λ:Lam} {n:Nat} {c:Code} {st:St} {K:SE->St->Prop}:wps te Φ Λ (n+1) c st K=(match c with
 |.skip=>K .normal st
 |.region _ ops draw=>cond draw (cond (eI Φ ops (bitsOf ops)) (gE te Φ ops.toList (bitsOf ops) (Wf te Φ ops (bitsOf ops) st) K st 0 ops.toList []) False) (gV te Φ ops.toList K ops.toList st)
 |.seq a b=>wps te Φ Λ n a st λe st'=>match e with
  |.normal=>wps te Φ Λ n b st' K
  |e=>K e st'
 |.cond c a b=>match st.eval c with
  |.bool t=>cond t (wps te Φ Λ n a st K) (wps te Φ Λ n b st K)
  |.azK=>(wps te Φ Λ n a st K)/\(wps te Φ Λ n b st K)
  |_=>False
 |.block id body=>match Λ id with
  |some l=>l st K
  |none=>wps te Φ Λ n body st λe st'=>match e with
   |.exit j=>cond (j==id) (K .normal st') (K (.exit j) st')
   |e=>K e st'
 |.loop body=>wps te Φ Λ n body st λe st'=>match e with
  |.normal=>wps te Φ Λ n (.loop body) st' K
  |e=>K e st'
 |.exit id=>K (.exit id) st
 |.ret=>K .ret st
 |_=>False):=by
 cases c<;>try rfl
 case region id ops draw=>
  simp only
  rw [<-lP,<-ac8]
  rfl
 case block id body=>
  have:∀ (e:SE) (st':St),(match e with
   |.exit j=>ifB (Nat.beq j id) (K .normal st') (K (.exit j) st')
   |e=>K e st')=(match e with
   |.exit j=>cond (j==id) (K .normal st') (K (.exit j) st')
   |e=>K e st'):=λe st'=>by
   cases e<;>try rfl
   rename_i j
   have hb:Nat.beq j id=(j==id):=by
    rw [Bool.eq_iff_iff]
    simp
   simp [V4]
  show (match Λ id with
   |some l=>l st K
   |none=>wps te Φ Λ n body st λe st'=>match e with
    |.exit j=>ifB (Nat.beq j id) (K .normal st') (K (.exit j) st')
    |e=>K e st')=_
  simp_all
def aiz (P:Program) (c:Code) (Q:Exit->Act->World->Prop) (a:Act) (w:World):Prop:=
 ∀ (b:Frame) (k:List Item) (cs:List Frame),∃ e a' w',Q e a' w'/\Arrives P (lone (b.at a (.code c:: .inLoop c::k)) cs w) b k cs e a' w'
theorem Ey {c:Code} {Q:Exit->Act->World->Prop} {a:Act} {w:World} (h:aiz P c Q a w):(Code.loop c).wp P Q a w:=
 λb k cs=>let ⟨e,a',w',hq,harr⟩:=h b k cs;⟨e,a',w',hq,.of_steps (.one step_loop) harr⟩
theorem IP {c:Code} {Q:Exit->Act->World->Prop} {a:Act} {w:World} (h:c.wp P (λe a' w'=>match e with|.normal=>aiz P c Q a' w'|e=>Q e a' w') a w):aiz P c Q a w:=by
 intro b k cs
 obtain ⟨e,a₁,w₁,hq,harr⟩:=h b (.inLoop c::k) cs
 cases e with
 |normal=>
  obtain ⟨e₂,a₂,w₂,hq₂,harr₂⟩:=hq b k cs
  exact ⟨e₂,a₂,w₂,hq₂,.of_steps (Steps.trans harr (.one step_inLoop)) harr₂⟩
 |exit id|goto l|ret|panic ch|outgrown=>exact ⟨_,a₁,w₁,hq,.pass (x:=.inLoop c) rfl (by simp) harr⟩
def Shown (P:Program) (c:Code) (Q:Exit->Act->World->Prop) (a:Act) (w:World):Prop:=
 match c with
 |.loop body=>aiz P body Q a w
 |c=>c.wp P Q a w
theorem Shown.wp {c:Code} {Q:Exit->Act->World->Prop} {a:Act} {w:World} (h:Shown P c Q a w):c.wp P Q a w:=by
 cases c<;>first|exact h|exact Ey h
theorem gY (hte:kH P te) (hΦ:nW P Φ) (hany:FP P te Φ) {R₀:Ctx} {Λ:Lam}:∀ (n:Nat) (c:Code) (R:Ctx) (st:St) (a:Act) (w:World) (K:SE->St->Prop) (Q:Exit->Act->World->Prop),rH P R₀ Λ c->
 R₀.Ext R->iF R st a w->wps te Φ Λ n c st K->oX R₀ K Q->Shown P c Q a w
 |0,c,R,st,a,w,K,Q,_,_,_,h,_=>h.elim
 |n+1,c,R,st,a,w,K,Q,hΛ,hx,hst,h,hK=>by
  rw [O0] at h
  cases c<;>simp only at h<;>try rfl
  case skip=>exact wp_skip (hK.normal R st a w hx hst h)
  case region id ops draw=>
   cases draw
   ·exact wp_region_list (lc hte hΦ hK _ R st a w hx hst h)
   ·cases hr:eI Φ ops (bitsOf ops)
    ·grind
    ·rw [hr] at h
     exact hany R₀ id ops K Q R st a w hK hx hst hr h
  case seq x y=>
   refine wp_seq (gY hte hΦ hany n x R st a w _ _ (λp hp=>hΛ p (by simp [blocks,hp])) hx hst h ⟨?_,?_,?_,?_⟩).wp
   ·exact λR' st' a' w' hx' hst' hk=>(gY hte hΦ hany n y R' st' a' w' K Q (λp hp=>hΛ p (by simp [blocks,hp])) hx' hst' hk hK).wp
   ·exact λR' st' a' w' hx' hst' hk=>hK.ret R' st' a' w' hx' hst' hk
   ·exact λR' st' a' w' id hx' hst' hk=>hK.exit R' st' a' w' id hx' hst' hk
   ·exact λR' st' a' w' sv v hx' hst' hv hk=>hK.pan R' st' a' w' sv v hx' hst' hv hk
  case cond c x y=>
   split at h
   ·rename_i t ht
    have hc:=j6 hst c
    rw [ht] at hc
    simp only [SV.rel] at hc
    refine wp_cond hc ?_
    cases t
    ·exact (gY hte hΦ hany n y R st a w K Q (λp hp=>hΛ p (by simp [blocks,hp])) hx hst h hK).wp
    ·exact (gY hte hΦ hany n x R st a w K Q (λp hp=>hΛ p (by simp [blocks,hp])) hx hst h hK).wp
   ·rename_i ht
    have hc:=j6 hst c
    rw [ht] at hc
    obtain ⟨t,hc⟩:=hc
    refine wp_cond hc ?_
    cases t
    ·exact (gY hte hΦ hany n y R st a w K Q (λp hp=>hΛ p (by simp [blocks,hp])) hx hst h.2 hK).wp
    ·exact (gY hte hΦ hany n x R st a w K Q (λp hp=>hΛ p (by simp [blocks,hp])) hx hst h.1 hK).wp
   grind
  case block id body=>
   split at h
   ·rename_i l hl
    exact hΛ (id,body) (by simp [blocks]) l hl R st a w K Q hx hst h hK
   ·refine wp_block (gY hte hΦ hany n body R st a w _ _ (λp hp=>hΛ p (by simp [blocks,hp])) hx hst h ⟨?_,?_,?_,?_⟩).wp
    ·exact λR' st' a' w' hx' hst' hk=>hK.normal R' st' a' w' hx' hst' hk
    ·exact λR' st' a' w' hx' hst' hk=>hK.ret R' st' a' w' hx' hst' hk
    ·intro R' st' a' w' j hx' hst' hk
     simp only [Exit.inBlock]
     by_cases e:j=id
     ·subst e
      simp at hk
      simp
      exact hK.normal R' st' a' w' hx' hst' hk
     ·have:(j==id)=false:=by grind
      simp only [this] at hk
      simp [e]
      exact hK.exit R' st' a' w' j hx' hst' hk
    ·exact λR' st' a' w' sv v hx' hst' hv hk=>hK.pan R' st' a' w' sv v hx' hst' hv hk
  case loop body=>
   refine IP (gY hte hΦ hany n body R st a w _ _ (λp hp=>hΛ p (by simp [blocks,hp])) hx hst h ⟨?_,?_,?_,?_⟩).wp
   ·exact λR' st' a' w' hx' hst' hk=>gY hte hΦ hany n (.loop body) R' st' a' w' K Q hΛ hx' hst' hk hK
   ·exact λR' st' a' w' hx' hst' hk=>hK.ret R' st' a' w' hx' hst' hk
   ·exact λR' st' a' w' id hx' hst' hk=>hK.exit R' st' a' w' id hx' hst' hk
   ·exact λR' st' a' w' sv v hx' hst' hv hk=>hK.pan R' st' a' w' sv v hx' hst' hv hk
  case exit id=>exact wp_exit (hK.exit R st a w id hx hst h)
  case ret=>exact wp_ret (hK.ret R st a w hx hst h)
theorem rJ (hte:kH P te) (hΦ:nW P Φ) (hany:FP P te Φ) {R₀:Ctx} {Λ:Lam} {n:Nat} {c:Code} {R:Ctx} {st:St} {a:Act} {w:World} {K:SE->St->Prop} {Q:Exit->Act->World->Prop} (hΛ:rH P R₀ Λ c)
 (hx:R₀.Ext R) (hst:iF R st a w) (h:wps te Φ Λ n c st K) (hK:oX R₀ K Q):c.wp P Q a w:=(gY hte hΦ hany n c R st a w K Q hΛ hx hst h hK).wp
def Ctx.put (R:Ctx) (l:List Deferred):Ctx:=⟨R.F,⟨R.U.blk,R.U.env,l⟩,R.σ,R.hp⟩
theorem uJ (R:Ctx) (l:List Deferred):R.aFp (R.put l):=⟨λ_ _ h=>h,λc ch h=>⟨ch,h,(by simp),λ_=>⟨rfl,rfl⟩⟩⟩
theorem apK {R:Ctx} {x:SV} {v:Value} (l:List Deferred) (h:SV.rel R x v):SV.rel (R.put l) x v:=SV.F0 (uJ R l) x v h
theorem F3 {R:Ctx} {x:List SV} {v:List Value} (l:List Deferred) (h:SV.bx R x v):SV.bx (R.put l) x v:=SV.kf (uJ R l) x v h
theorem aaN {R:Ctx} {w:World} (l:List Deferred) (h:cu R w):cu (R.put l) w:=by
 refine ⟨h.F,h.U,λc ch hc=> ?_,h.apart,h.FU,h.env⟩
 have h0:=h.ch c ch hc
 obtain ⟨e,body⟩:=ch
 cases body with
 |row t xs|frz t xs=>exact h0
 |cells vs=>
  obtain ⟨L,h1,h2,h3,arr,E,h4,h5,h6,h7,h8⟩:=h0
  exact ⟨L,h1,h2,h3,arr,E,h4,h5,h6,F3 l h7,h8⟩
theorem apL {R R':Ctx} {w':World} {u:List (Nat×Ch)} {l:List Deferred} (h:dD (R.put l) R' w' u):dD R (R'.put R.U.dfs) w' u:=
 ⟨⟨h.ext.F,by show (⟨R'.U.blk,R'.U.env,R.U.dfs⟩:FN)=R.U;rw [h.ext.U];rfl,h.ext.ch⟩,h.hp,aaN _ h.mem⟩
end
end Sx
end
section
namespace Sx
open Go
section
variable {P:Program} {te:TE} {Φ:Env}
theorem arQ {R:Ctx} {st:St} {a:Act} {w:World} (h:iF R st a w) (t:Nat):SV.rel R (st.tm.getD t .fY) (a.tmps.getD t Go.undef):=j6 h (.tmp t)
def afV (tmps:Array Value):ResultVar->Sem Value
 |.tmp t=>pure (tmps.getD t Go.undef)
 |.cell b t=>do loadVar t (<-asAddr (tmps.getD b Go.undef))
theorem aed (ad:Addr):asAddr (.pointer (some ad))=pure ad:=rfl
theorem l8 (hte:kH P te) {R:Ctx} {st:St} {a:Act} {w:World} (h:iF R st a w):∀ (rs:List ResultVar) (K:List SV->Prop),rV te st rs K->
 ∃ l vs,K l/\SV.bx R l vs/\(rs.mapM (afV a.tmps)).run P w=.ok vs w
 | [],K,hk=>⟨[],[],hk,uG,rfl⟩
 |.tmp t::r,K,hk=>by
  obtain ⟨l,vs,h1,h2,h3⟩:=l8 hte h r _ hk
  refine ⟨_,a.tmps.getD t Go.undef::vs,h1,?_,?_⟩
  ·simp only [SV.bx];exact ⟨_,_,rfl,arQ h t,h2⟩
  ·simp only [List.mapM_cons,afV,Sem.run_bind,Sem.run_pure,Result.andThen_ok,h3]
 |.cell b T::r,K,hk=>by
  simp only [rV] at hk
  split at hk
  ·rename_i ti hT
   obtain ⟨cs,h0,h1⟩:=OT.GO hk
   obtain ⟨l,vs,h1,h2,h3⟩:=l8 hte h r _ h1
   rw [<-h.hp] at h0
   obtain ⟨ad,hv,v,g1,g2⟩:=AV (P:=P) h.mem hte hT (arQ h b) h0
   refine ⟨_,v::vs,h1,?_,?_⟩
   ·simp only [SV.bx];exact ⟨_,_,rfl,g2,h2⟩
   ·simp only [List.mapM_cons,afV,Sem.run_bind,hv,aed,Sem.run_pure,Result.andThen_ok,g1,h3]
  ·exact hk.elim
theorem j0 (hte:kH P te) {R:Ctx} {st:St} {a:Act} {w:World} (h:iF R st a w) {fn:Func} {K:SV->Prop} (hk:Al te fn st K):
 ∃ x v,K x/\SV.rel R x v/\(results fn a.tmps).run P w=.ok v w:=by
 obtain ⟨l,vs,h1,h2,h3⟩:=l8 hte h _ _ hk
 have hrun:(results fn a.tmps).run P w=.ok (if h:vs.toArray.size=1 then vs.toArray[0] else .tuple vs.toArray) w:=by
  have hfun:results fn a.tmps=(do
   let vs <-fn.results.mapM (afV a.tmps)
   pure (if h:vs.size=1 then vs[0] else .tuple vs)):=by
   unfold results
   congr 1
  rw [hfun,Sem.run_bind,Array.mapM_eq_mapM_toList,Sem.run_map,h3]
  rfl
 refine ⟨_,_,h1,?_,hrun⟩
 have hl:=SV.aJ h2
 cases l with
 |nil=>
  simp only [SV.bx] at h2
  subst h2
  simp only [oneOf,SV.rel]
  exact ⟨[],by simp,uG⟩
 |cons x l=>
  cases l with
  |nil=>
   obtain ⟨v,rfl,hv⟩:=bW h2
   simpa [oneOf] using hv
  |cons y l=>
   have hne:¬vs.toArray.size=1:=by simp at hl⊢;omega
   rw [dif_neg hne]
   simp only [oneOf,SV.rel]
   exact ⟨vs,rfl,h2⟩
def Fv (R:Ctx) (K Kp:SV->Hp->Prop) (en:Ending) (w':World):Prop:=
 (∃ x v R',en=.returned v/\R.Ext R'/\cu R' w'/\SV.rel R' x v/\K x R'.hp)\/(∃ x v R',en=.panicked [{v,recovered:=false}]/\R.Ext R'/\cu R' w'/\SV.rel R' x v/\Kp x R'.hp)
theorem azZ (hte:kH P te) (hΦ:nW P Φ) (hany:FP P te Φ) {fn:Func} {c:Code} (hb:fn.body=some c) {R:Ctx} {Λ:Lam} (hΛ:rH P R Λ c) {w:World} {n:Nat}
 {args:List SV} {vs:List Value} {K Kp:SV->Hp->Prop} (hd:R.U.dfs= []) (hm:cu R w) (ha:SV.bx R args vs) (h:wpf te Φ Λ n fn args R.hp K Kp):
 c.wp P (bodyPost P fn (Fv R K Kp)) {tmps:=vs.toArray++Array.replicate (fn.ntmps-vs.toArray.size) undef,defers:= []} w:=by
 unfold wpf at h
 rw [hb] at h
 simp only at h
 refine rJ (R₀:=R) (R:=R) hte hΦ hany hΛ (Ctx.Ext.refl R) ⟨rfl,hm,?_,hd.symm⟩ h ⟨?_,?_,?_,?_⟩
 ·have hl:=SV.aJ ha
  simp only [Array.toList_append,List.toList_toArray,Array.toList_replicate,List.size_toArray,hl]
  refine SV.bz ha (SV.py (by simp) λi h1 h2=> ?_)
  simp [SV.rel]
 ·intro R' st a w' hx hst hk
  obtain ⟨x,v,h1,h2,h3⟩:=j0 hte hst hk
  refine ⟨hst.defers.trans (by rw [hx.U];exact hd),v,h3,.inl ⟨x,v,R',rfl,hx,hst.mem,h2,?_⟩⟩
  rw [hst.hp];exact h1
 ·intro R' st a w' hx hst hk
  obtain ⟨x,v,h1,h2,h3⟩:=j0 hte hst hk
  refine ⟨hst.defers.trans (by rw [hx.U];exact hd),v,h3,.inl ⟨x,v,R',rfl,hx,hst.mem,h2,?_⟩⟩
  rw [hst.hp];exact h1
 ·intro R' st a w' id hx hst hk
  exact hk.elim
 ·intro R' st a w' sv v hx hst hv hk
  refine ⟨hst.defers.trans (by rw [hx.U];exact hd),.inr ⟨sv,v,R',rfl,hx,hst.mem,hv,?_⟩⟩
  rw [hst.hp];exact hk
theorem GN (hte:kH P te) (hΦ:nW P Φ) (hany:FP P te Φ) {f:FuncId} {fn:Func} {c:Code} (hf:P.funcs[f]? =some fn) (hb:fn.body=some c) {R:Ctx} {Λ:Lam} (hΛ:rH P R Λ c) {w:World} {n:Nat}
 {args:List SV} {vs:List Value} {K Kp:SV->Hp->Prop} (hd:R.U.dfs= []) (hm:cu R w) (ha:SV.bx R args vs) (h:wpf te Φ Λ n fn args R.hp K Kp):Calls P f vs.toArray w (Fv R K Kp):=
 calls_of_wp hf hb (azZ hte hΦ hany hb hΛ hd hm ha h)
end
end Sx
end
section
namespace Sx
open Go
def ATy:List (Bool×Ty)->Type
 | []=>Unit
 |(_,t)::r=>t.T×ATy r
def ap8 (hp:Hp):(t:Ty)->List SV->Option t.T
 |.bool,cs=>alf cs
 |.u64,cs=>aFd cs
 |.u8,cs=>pU8 cs
 |.int,cs=>aFg cs
 |.str,cs=>aFe cs
 |.elem,cs=>ale cs
 |.prod a b,cs=>sw (ap8 hp a (cs.take a.size)) (ap8 hp b (cs.drop a.size))
 |.arr n t,cs=>if cs.length=n*t.size then (List.range n).mapM λi=>ap8 hp t ((cs.drop (i*t.size)).take t.size) else none
 |.list t,cs=>if 0<t.size then aFf (wD t hp) cs else none
def aGn (hp:Hp) (b:Bool) (t:Ty) (x:SV):Option t.T:=
 match b,x with
 |true,.agg l=>ap8 hp t l
 |true,_=>none
 |false,x=>ap8 hp t [x]
def arR (hp:Hp):(as:List (Bool×Ty))->List SV->Option (ATy as)
 | [],[]=>some ()
 |(b,t)::r,x::l=>sw (aGn hp b t x) (arR hp r l)
 |_,_=>none
def inj (b:Bool) (t:Ty) (x:t.T):SV:=rF b (unpack t x)
def aAH:(as:List (Bool×Ty))->ATy as->List SV
 | [],_=> []
 |(b,t)::r,x=>inj b t x.1::aAH r x.2
def Ctx.all (R:Ctx) (w:World):Ctx:=⟨λb=>w.heap[b]?,⟨λ_=>none,R.U.env,[]⟩,λ_=>none,λ_=>none⟩
section
variable {P:Program} {R:Ctx} {w:World}
def Ty.plain:Ty->Bool
 |.list _=>false
 |.prod a b=>a.plain&&b.plain
 |.arr _ t=>t.plain
 |_=>true
def SV.flat:SV->Bool
 |.bool _|.u64 _|.u8 _|.int _|.str _=>true
 |_=>false
theorem ahe {R R':Ctx}:∀ {x:SV} {v:Value},x.flat=true->SV.rel R x v->SV.rel R' x v:=by
 intro x v hf h
 cases x<;>first|(cases hf;done)|grind [SV.rel]
theorem WJ {R R':Ctx}:∀ {l:List SV} {vs:List Value},l.all SV.flat=true->SV.bx R l vs->SV.bx R' l vs
 | [],vs,_,h=>by grind [SV.bx]
 |x::l,vs,hf,h=>by
  simp only [ax,av] at hf
  obtain ⟨v,r,h1,h2,h3⟩:=h
  exact ⟨v,r,h1,ahe hf.1 h2,WJ hf.2 h3⟩
theorem lU:∀ (t:Ty) (_:t.plain=true) (x:t.T),(unpack t x).all SV.flat=true
 |.bool,_,_|.u64,_,_|.u8,_,_|.int,_,_|.str,_,_|.elem,_,_=>rfl
 |.prod a b,hp,x=>by
  simp [Ty.plain] at hp
  simp [unpack,lU a hp.1,lU b hp.2]
 |.arr n t,hp,x=>by
  simp [unpack]
  intro i _
  simpa [fX] using lU t hp _
structure aiy where
 as:List (Bool×Ty)
 rs:List (Bool×Ty)
 pre:ATy as->Bool
 F:ATy as->ATy rs
def aiy.aw (S:aiy):bi:=⟨false,λ_ args hp=>match arR hp S.as args with
 |some x=>.guard (S.pre x) (.ok (.ret ⟨oneOf (aAH S.rs (S.F x)),[]⟩))
 |none=>.fail⟩
end
end Sx
end
section
namespace Sx
open Go
def lF (d n:Nat):Prop:=n/4096=d+1
structure Grown (d:Nat) (hp hp':Hp):Prop where
 mj:∀ c ch,hp c=some ch->hp' c=some ch
 free:∀ n,lF d n->hp n=none->hp' n=none
theorem Aj {c e n:Nat} {hp:Hp} (h:eR hp c e=some n):∃ b,dZ hp c e=some b:=by grind [eR]
theorem nN {c e n:Nat} {hp:Hp} (h:dN hp c e=some n):∃ b,dZ hp c e=some b:=by grind [dN]
section
variable {d:Nat} {hp hp':Hp} (hg:Grown d hp hp')
include hg
theorem bM {c e:Nat} {b:Chunk} (h:dZ hp c e=some b):dZ hp' c e=some b:=by
 have:=hg.mj _ _ (bP h)
 grind [dZ]
theorem th:∀ (n k:Nat),n+k<=4000->eY hp' d n k=eY hp d n k
 |0,k,_=>rfl
 |n+1,k,hk=>by
  simp [eY]
  cases h:hp ((d+1)*4096+k) with
  |none=>
   have:hp' ((d+1)*4096+k)=none:=hg.free _ (by grind [lF]) h
   grind
  |some ch=>
   rw [hg.mj _ _ h]
   exact th n (k+1) (by omega)
theorem jO:fresh hp' d=fresh hp d:=th hg 4000 0 (by simp)
theorem Ub {c e n:Nat} (h:eR hp c e=some n):eR hp' c e=some n:=by grind [eR,dZ,bM]
theorem Ai {c e n:Nat} (h:dN hp c e=some n):dN hp' c e=some n:=by grind [dN,dZ,bM]
theorem aeb {t:Ty} {x:SV} {ys:List t.T} (h:aec t hp x=some ys):aec t hp' x=some ys:=by
 cases x<;>simp [aec] at h⊢ <;>try omega
 case own c e=>
  cases hc:hp c with
  |none=>grind
  |some ch=>rw [hg.mj _ _ hc];grind
 case part c e off len=>
  cases hc:hp c with
  |none=>grind
  |some ch=>rw [hg.mj _ _ hc];grind
theorem Yg {t:Ty} {x:SV} {ys:List t.T} (h:wD t hp x=some ys):wD t hp' x=some ys:=by
 cases x<;>simp [wD] at h⊢ <;>try grind
 case own c e=>
  cases hc:hp c with
  |none=>grind
  |some ch=>rw [hg.mj _ _ hc];grind
 case part c e off len=>
  cases hc:hp c with
  |none=>grind
  |some ch=>rw [hg.mj _ _ hc];grind
 case clip c e=>
  cases hc:hp c with
  |none=>grind
  |some ch=>rw [hg.mj _ _ hc];grind
theorem lK:∀ {t:Ty} {cs:List SV} {x:t.T},pack hp t cs=some x->pack hp' t cs=some x
 |.bool,_,_,h|.u64,_,_,h|.u8,_,_,h|.int,_,_,h|.str,_,_,h|.elem,_,_,h=>h
 |.prod a b,cs,x,h=>by
  obtain ⟨h1,h2⟩:=aU h
  simp [pack,lK h1,lK h2,sw]
 |.arr n t,cs,x,h=>by
  simp only [pack] at h⊢
  split at h
  ·rename_i hl
   rw [if_pos hl]
   exact lM (λ_ _=>lK) h
  grind
 |.list t,cs,x,h=>by
  obtain ⟨y,rfl,hy⟩:=n8 h
  exact aeb hg hy
theorem IR {n:Nat} {x:SV} {cs:List SV} (h:(loadCells hp n x).run=some cs):(loadCells hp' n x).run=some cs:=by
 unfold loadCells at h⊢
 split at h
 ·rename_i c e i off
  cases hq:dZ hp c e with
  |none=>rw [hq] at h;cases h
  |some b=>grind [bM]
 ·grind
 ·omega
 grind
theorem Mc {te:TE} {T:TypeId} {x z:SV} (h:(vX te hp T x).run=some z):(vX te hp' T x).run=some z:=by
 unfold vX at h⊢
 split at h
 ·split at h
  ·omega
  ·split at h
   ·cases h
   ·rename_i hn
    rw [if_neg hn]
    split at h
    ·split at h
     ·rename_i hrs
      rw [if_pos (Ai hg hrs)]
      split at h
      ·grind [Ub]
      ·cases h
     ·cases h
    ·split at h
     ·grind [Ai]
     ·cases h
    ·exact h
    omega
 omega
theorem Pz {t:Ty} {cs:List SV}:∀ {m j i:Nat} {xs ys:List t.T},rR t hp cs m j i xs=some ys->rR t hp' cs m j i xs=some ys
 :=by intro t;induction t<;>grind [rR,lK]
theorem FB {cs:List SV} {x:SV} {u:List (Nat×Ch)} (h:(storeCells hp cs x).run=some u):(storeCells hp' cs x).run=some u:=by
 unfold storeCells at h⊢
 split at h
 ·rename_i c e i off
  cases hq:dZ hp c e with
  |none=>rw [hq] at h;cases h
  |some b=>
   rw [bM hg hq]
   rw [hq] at h
   cases b with
   |frz t xs=>cases h
   |cells vs=>exact h
   |row t xs=>
    simp only at h⊢
    split at h
    ·rename_i h1
     rw [if_pos h1]
     obtain ⟨h2,h3⟩:=OT.aD h
     rw [h2]
     split at h3
     ·grind [lK]
     ·cases h3
    ·rename_i h1
     rw [if_neg h1]
     split at h
     ·rename_i h4
      obtain ⟨h2,h3⟩:=OT.aD h
      rw [h2]
      split at h3
      ·grind [Pz]
      ·cases h3
     ·cases h
 ·cases h
theorem gh {c e:Nat} {b:Chunk} (h:dZ hp c e=some b):dN hp' c e=dN hp c e:=by grind [dN,bM]
theorem fw {c e:Nat} {b:Chunk} (h:dZ hp c e=some b):eR hp' c e=eR hp c e:=by grind [eR,bM]
theorem Jh {te:TE} {T:TypeId} {x z:SV} {k:Int} (h:(indexAddr te hp T x k).run=some z):(indexAddr te hp' T x k).run=some z:=by
 unfold indexAddr at h⊢
 split at h
 ·cases h
 ·split at h
  ·split at h
   ·cases h
   ·split at h
    ·rename_i ei _ c ep i off
     cases hq:dZ hp c ep with
     |none=>
      have:dN hp c ep=none:=by unfold dN;rw [hq]
      rw [this,hq] at h
      simp at h
      cases h
     |some b=>
      grind [gh,bM]
    ·exact h
    ·cases h
  ·split at h
   ·cases h
   ·split at h
    ·split at h
     ·grind [Aj,fw,gh]
     ·cases h
    ·split at h
     ·grind [Aj,fw,gh]
     ·cases h
    ·split at h
     ·rename_i hs
      obtain ⟨b,hb⟩:=nN hs
      rw [gh hg hb,if_pos hs]
      exact h
     ·cases h
    ·exact h
    ·cases h
  ·cases h
end
end Sx
end
section
namespace Sx
open Go
theorem jE {hp:Hp} {c e:Nat} (h:dZ hp c e=none):eR hp c e=none:=by unfold eR;rw [h]
section
variable {d:Nat} {hp hp':Hp} (hg:Grown d hp hp')
include hg
theorem Ac {size c ep off len:Nat} {lo hi:Option SV} {z:SV} (h:(xk hp size c ep off len lo hi).run=some z):(xk hp' size c ep off len lo hi).run=some z:=by
 unfold xk at h⊢
 split at h
 ·rename_i hs
  obtain ⟨b,hb⟩:=nN hs
  rw [gh hg hb,if_pos hs]
  exact h
 ·cases h
theorem Pu {te:TE} {T:TypeId} {x z:SV} {lo hi mx:Option SV} (h:(pn te hp T x lo hi mx).run=some z):(pn te hp' T x lo hi mx).run=some z:=by
 unfold pn at h⊢
 split at h
 ·cases h
 ·split at h
  ·split at h
   ·rename_i ei c ep i off _
    split at h
    ·rename_i hc
     obtain ⟨b,hb⟩:=nN hc.2.2
     rw [gh hg hb,if_pos hc,fw hg hb]
     exact h
    ·cases h
   ·cases h
  ·split at h
   ·cases h
   ·rename_i ei _
    have h0:=OT.aAp h
    clear h
    rcases h0 with ⟨hn,h⟩|⟨hn,h⟩
    ·rw [hn,OT.aFL]
     cases x<;>first|exact h|(cases h;done)|skip
     case own c ep|clip c ep|part c ep _ _=>
      cases hq:dZ hp c ep with
      |none=>simp only [jE hq] at h;cases h
      |some b=>simp only [fw hg hq];exact h
    ·rw [hn,OT.aFM]
     cases mx with
     |some m=>
      cases m<;>cases x<;>first|exact h|(cases h;done)|skip
      case int.own m c ep=>
       cases hq:dZ hp c ep with
       |none=>simp only [jE hq] at h;cases h
       |some b=>simp only [fw hg hq,gh hg hq];exact h
     |none=>
      cases x<;>first|exact h|(cases h;done)|skip
      case own c ep=>
       cases hq:dZ hp c ep with
       |none=>simp only [jE hq] at h;cases h
       |some b=>
        simp only [fw hg hq]
        simp only at h
        split at h
        ·exact Ac hg h
        ·cases h
      case part c ep off len=>exact Ac hg h
  ·exact h
  ·cases h
theorem abJ {te:TE} {T:TypeId} {x z:SV} (h:(LO te hp T x).run=some z):(LO te hp' T x).run=some z:=by
 unfold LO at h⊢
 split at h
 ·cases h
 ·rename_i ti hT
  cases hd:ti.desc<;>rw [hd] at h<;>cases x<;>first|exact h|(cases h;done)|skip
  case slice.own _ c ep=>
   simp only at h⊢
   cases hq:dZ hp c ep with
   |none=>simp only [jE hq] at h;cases h
   |some b=>simp only [fw hg hq];exact h
  case slice.clip _ c ep=>
   simp only at h⊢
   cases hq:dZ hp c ep with
   |none=>simp only [jE hq] at h;cases h
   |some b=>simp only [fw hg hq];exact h
  case slice.part _ c ep off len=>
   simp only at h⊢
   cases hq:dZ hp c ep with
   |none=>simp only [jE hq] at h;cases h
   |some b=>simp only [fw hg hq];exact h
omit hg in
theorem tg:∀ (n k:Nat),n+k<=4000->lF d (eY hp d n k)
 |0,k,h=>by unfold lF;simp only [eY];omega
 |n+1,k,h=>by
  simp only [eY]
  split
  ·unfold lF;omega
  ·exact tg n (k+1) (by omega)
omit hg in
theorem JI (d:Nat) (hp:Hp):lF d (fresh hp d):=tg 4000 0 (by omega)
theorem eA (h:¬(hp (fresh hp d)).isSome=true):¬(hp' (fresh hp d)).isSome=true:=by
 rw [hg.free _ (JI d hp) (ow h)]
 simp
theorem Nb {t:Ty} {x:SV} {ys:List t.T}:(match x with
 |.str b=>b7 t .u8 b
 |_=>wD t hp x)=some ys->(match x with
 |.str b=>b7 t .u8 b
 |_=>wD t hp' x)=some ys:=λh=>by
 cases x<;>first|exact h|exact Yg hg h
theorem Me {te:TE} {T:TypeId} {s x:SV} {e:Eff} (h:(vY te hp d T s x).run=some e):(vY te hp' d T s x).run=some e:=by
 unfold vY at h⊢
 split at h
 ·split at h
  ·rename_i size bytes _ _ t hte
   split at h
   ·cases h
   ·rename_i hb
    rw [if_neg hb]
    split at h
    ·rename_i ys hys
     have key:=Nb hg hys
     split
     case h_2 hno=>exact absurd (hno.symm.trans key) (by simp)
     rename_i ys' hys'
     have:ys'=ys:=Option.some.inj (hys'.symm.trans key)
     subst this
     cases s<;>first|(cases h;done)|skip
     case own c ep=>
      simp only at h⊢
      cases hq:dZ hp c ep with
      |none=>rw [hq] at h;cases h
      |some b=>rw [bM hg hq];rw [hq] at h;exact h
     case emp=>
      simp only at h⊢
      split at h
      ·cases h
      ·rename_i hf
       rw [jO hg,if_neg (eA hg hf)]
       exact h
     case clip c ep=>
      simp only at h⊢
      cases hq:dZ hp c ep with
      |none=>rw [hq] at h;cases h
      |some b=>
       rw [bM hg hq];rw [hq] at h
       cases b<;>first|(cases h;done)|skip
       case row t' xs=>
        simp only at h⊢
        split at h
        ·split at h
         ·cases h
         ·rename_i hf
          rw [jO hg,if_neg (eA hg hf)]
          exact h
        ·cases h
    ·cases h
  ·cases h
 ·cases h
theorem Xi {te:TE} {T:TypeId} {x y:SV} {e:Eff} (h:(NU te hp T x y).run=some e):(NU te hp' T x y).run=some e:=by
 unfold NU at h⊢
 split at h
 ·split at h
  ·split at h
   ·cases h
   ·rename_i hb
    rw [if_neg hb]
    split at h
    ·rename_i ys hys
     have key:=Nb hg hys
     split
     case h_2 hno=>exact absurd (hno.symm.trans key) (by simp)
     rename_i ys' hys'
     have:ys'=ys:=Option.some.inj (hys'.symm.trans key)
     subst this
     cases x<;>first|(cases h;done)|skip
     case own c ep=>
      simp only at h⊢
      cases hq:dZ hp c ep with
      |none=>rw [hq] at h;cases h
      |some b=>rw [bM hg hq];rw [hq] at h;exact h
     case part c ep off len=>
      simp only at h⊢
      cases hq:dZ hp c ep with
      |none=>rw [hq] at h;cases h
      |some b=>rw [bM hg hq];rw [hq] at h;exact h
    ·cases h
  ·cases h
 ·cases h
theorem ES {te:TE} {T:TypeId} {cs:List SV} {e:Eff} (h:(newVar te hp d T cs).run=some e):(newVar te hp' d T cs).run=some e:=by
 unfold newVar at h⊢
 split at h
 ·cases h
 ·split at h
  ·cases h
  ·rename_i hl
   rw [if_neg hl]
   simp only at h⊢
   split at h
   ·cases h
   ·rename_i hf
    rw [jO hg,if_neg (eA hg hf)]
    exact h
theorem FI {te:TE} {T:TypeId} {len:Nat} {ps:List (Nat×SV)} {e:Eff} (h:(buildSlice te hp d T len ps).run=some e):(buildSlice te hp' d T len ps).run=some e:=by
 unfold buildSlice at h⊢
 split at h
 ·split at h
  ·simp only at h⊢
   split at h
   ·cases h
   ·rename_i hf
    rw [jO hg]
    rw [if_neg (by rintro (h1|h1);exact eA hg (λh2=>hf (.inl h2)) h1;exact hf (.inr h1))]
    split at h
    ·split at h
     ·rename_i xs hxs
      rw [lM (λ_ _=>lK hg) hxs]
      exact h
     ·cases h
    ·cases h
  ·cases h
 ·cases h
theorem II {te:TE} {T:TypeId} {l c:Int} {e:Eff} (h:(makeSlice te hp d T l c).run=some e):(makeSlice te hp' d T l c).run=some e:=by
 unfold makeSlice at h⊢
 split at h
 ·split at h
  ·simp only at h⊢
   split at h
   ·cases h
   ·rename_i hf
    rw [jO hg]
    rw [if_neg (by rintro (h1|h1);exact eA hg (λh2=>hf (.inl h2)) h1;exact hf (.inr h1))]
    exact h
  ·cases h
 ·cases h
end
end Sx
end
section
namespace Sx
open Go
def au (s:bi):Prop:=∀ (d:Nat) (args:List SV) (hp hp':Hp) (out:Out),Grown d hp hp'->(s.f d args hp).run=some out->(s.f d args hp').run=some out
def nX (Φ:Env):Prop:=∀ f s,Φ f=some s->au s
theorem eV {α β:Type} {f:α->β} {x y:OT α} {z:β} (hxy:∀ a,x.run=some a->y.run=some a) (h:(x.map f).run=some z):(y.map f).run=some z:=by
 obtain ⟨a,h1,rfl⟩:=OT.run_map h
 have:=hxy a h1
 clear h h1 hxy
 induction y with
 |ok b=>cases this;rfl
 |br b u v hu hv=>
  cases b
  ·exact hv this
  ·exact hu this
 |fail=>cases this
theorem FG {te:TE} {d:Nat} {hp hp':Hp} (hg:Grown d hp hp') {src dst:TypeId} {x:SV} {y:Nat×Nat×List UInt8} (h:gR te hp src dst x=some y):gR te hp' src dst x=some y:=by
 unfold gR at h⊢
 split at h
 ·rename_i hs
  rw [if_pos hs]
  split at h
  ·split at h
   ·split at h
    ·split at h
     ·rename_i h3
      rw [bM hg h3]
      exact h
     ·cases h
    ·cases h
   ·cases h
  ·cases h
 ·cases h
theorem amY {te:TE} {Φ:Env} (hΦ:nX Φ) {d:Nat} {hp hp':Hp} (hg:Grown d hp hp') {ρ:Operand->SV} {op:Op} {out:Out} (h:(Ly te Φ hp d ρ op).run=some out):
 (Ly te Φ hp' d ρ op).run=some out:=by
 cases op<;>simp only [Ly] at h⊢ <;>try (first|exact h|(cases h;done))
 case alloc T=>
  split at h
  ·exact eV (λ_=>ES hg) h
  ·cases h
 case box T x=>
  split at h
  ·exact eV (λ_=>ES hg) h
  ·cases h
 case buildSlice T len ps=>exact eV (λ_=>FI hg) h
 case load T a=>
  split at h
  ·exact eV (λ_ hq=>eV (λ_=>IR hg) hq) h
  ·cases h
 case store T a x=>
  split at h
  ·split at h
   ·split at h
    ·rename_i hl
     rw [if_pos hl]
     exact eV (λ_=>FB hg) h
    ·cases h
   ·cases h
  ·cases h
 case slice T x lo hi mx=>exact eV (λ_=>Pu hg) h
 case sliceToArrayPointer T x=>exact eV (λ_=>Mc hg) h
 case indexAddr T x k=>
  split at h
  ·exact eV (λ_=>Jh hg) h
  ·cases h
 case convert src dst x=>
  split at h
  ·exact h
  ·split at h
   ·rename_i hs
    rw [FG hg hs]
    exact h
   ·rename_i hs
    split
    ·rename_i c e s hs'
     obtain ⟨_,_,hx,_,_⟩:=tQ hs'
     rw [hx] at h
     unfold Gt at h
     split at h<;>first|(cases h;done)|(split at h<;>first|(cases h;done)|skip)
     all_goals (rename_i he;simp_all)
    ·exact h
 case makeSlice T l c=>
  split at h
  ·exact eV (λ_=>II hg) h
  ·cases h
 case call c=>
  cases hc:c.callee<;>simp only [hc] at h⊢ <;>try (cases h;done)
  case value f=>
   unfold aty at h⊢
   split at h
   ·split at h
    ·rename_i s hs
     exact hΦ _ _ hs _ _ _ _ _ hg h
    ·cases h
   ·cases h
  case invoke recv name=>
   unfold RV at h⊢
   split at h
   ·split at h
    ·split at h
     ·rename_i s hs
      exact hΦ _ _ hs _ _ _ _ _ hg h
     ·cases h
    ·cases h
   ·cases h
  case builtin b=>
   cases b<;>simp only at h⊢ <;>try (cases h;done)
   case len=>
    split at h
    ·exact eV (λ_=>abJ hg) h
    ·cases h
   case append=>
    split at h
    ·split at h
     ·rename_i hl
      rw [if_pos hl]
      exact eV (λ_=>Me hg) h
     ·cases h
    ·cases h
   case copy=>
    split at h
    ·exact eV (λ_=>Xi hg) h
    ·cases h
   case max=>exact h
def Sw (d:Nat) (hp hp':Hp):Prop:=∀ n,lF d n->(hp n=none ↔ hp' n=none)
theorem E7 {d:Nat} {hp hp':Hp} (hf:Sw d hp hp'):∀ (n k:Nat),n+k<=4000->eY hp' d n k=eY hp d n k
 |0,k,_=>rfl
 |n+1,k,hk=>by
  simp only [eY]
  have hb:lF d ((d+1)*4096+k):=by unfold lF;omega
  cases h:hp ((d+1)*4096+k) with
  |none=>rw [(hf _ hb).1 h]
  |some ch=>
   cases h':hp' ((d+1)*4096+k) with
   |none=>rw [(hf _ hb).2 h'] at h;cases h
   |some ch'=>exact E7 hf n (k+1) (by omega)
theorem ag7 {d:Nat} {hp hp':Hp} (hf:Sw d hp hp'):fresh hp' d=fresh hp d:=E7 hf 4000 0 (by omega)
theorem VD {d:Nat} {hp hp':Hp} (hf:Sw d hp hp'):(hp' (fresh hp d)).isSome=(hp (fresh hp d)).isSome:=by
 have:=hf _ (JI d hp)
 cases h:hp (fresh hp d) with
 |none=>rw [this.1 h]
 |some ch=>
  cases h':hp' (fresh hp d) with
  |none=>rw [this.2 h'] at h;cases h
  |some ch'=>rfl
theorem as9 {te:TE} {Φ:Env} {d:Nat} {hp hp':Hp} (hf:Sw d hp hp') {ρ:Operand->SV} {op:Op} (hk:fj Φ op=0):
 Ly te Φ hp' d ρ op=Ly te Φ hp d ρ op:=by
 cases op<;>simp only [Ly]<;>(first|(exfalso;simp [fj] at hk;done)|skip)
 case convert src dst x=>
  have hne:¬Nat.beq src dst=true:=λe=>by simp [fj,e] at hk
  have:∀ hp,gR te hp src dst (ρ x)=none:=λhp=>by unfold gR;rw [if_neg hne]
  rw [this,this]
 case alloc T=>
  split
  ·congr 1
   unfold newVar
   rw [ag7 hf]
   simp only [VD hf]
  ·rfl
 case makeSlice T l c=>
  split
  ·congr 1
   unfold makeSlice
   rw [ag7 hf]
   simp only [VD hf]
  ·rfl
 case call c=>
  cases hc:c.callee<;>(try simp only)
  case value f=>
   exfalso
   simp only [fj,hc] at hk
   cases f<;>simp only at hk<;>first|(cases hk;done)|skip
   split at hk
   ·split at hk<;>cases hk
   ·cases hk
  case invoke recv name=>
   exfalso
   simp only [fj,hc] at hk
   cases hk
  case builtin b=>
   cases b<;>(try simp only)<;>(simp only [fj,hc] at hk;try (cases hk;done))
theorem amZ {te:TE} {Φ:Env} {d:Nat} {hp:Hp} {ρ ρ':Operand->SV} {op:Op} (h:∀ x ∈ op.operands,ρ x=ρ' x):Ly te Φ hp d ρ op=Ly te Φ hp d ρ' op:=by
 have pairs:∀ ps:Array (Nat×Operand),(∀ x ∈ (ps.toList.map (·.2)).toArray,ρ x=ρ' x)->(ps.toList.map λp=>(p.1,ρ p.2))=(ps.toList.map λp=>(p.1,ρ' p.2)):=λps hp=>
  List.map_congr_left λp hm=>by
   rw [hp p.2 (by simpa using ⟨p.1,by simpa using hm⟩)]
 cases op<;>simp only [Op.operands] at h<;>simp only [Ly]
 case build t ps=>rw [pairs ps h]
 case buildSlice t n ps=>rw [pairs ps h]
 case makeFunc f first caps=>
  rw [List.map_congr_left (l:=first.toList) λx hx=>h x (by simp at hx;simp [hx]),List.map_congr_left (l:=caps.toList) λx hx=>h x (by simp at hx;simp [hx])]
 case call c=>
  have hargs:c.args.toList.map ρ=c.args.toList.map ρ':=List.map_congr_left λx hx=>h x (by simp at hx;simp [Call.operands,hx])
  have harr:∀ x ∈ c.args.toList,ρ x=ρ' x:=λx hx=>h x (by simp at hx;simp [Call.operands,hx])
  cases hc:c.callee<;>(try simp only)
  case value f=>
   have hf:ρ f=ρ' f:=h f (by simp [Call.operands,hc])
   rw [hargs,hf]
  case invoke recv name=>
   have hf:ρ recv=ρ' recv:=h recv (by simp [Call.operands,hc])
   rw [hargs,hf]
  case builtin b=>
   cases b<;>(try simp only)
   all_goals (
    rcases ha:c.args.toList with _|⟨x,_|⟨y,_|⟨z,r⟩⟩⟩<;>rcases hT:c.argTypes.toList with _|⟨T,_|⟨T',_|⟨T'',r'⟩⟩⟩<;>
     first
     |rfl
     |(have hx:=harr x (by rw [ha];simp);simp only [hx];done)
     |(have hx:=harr x (by rw [ha];simp);have hy:=harr y (by rw [ha];simp);simp only [hx,hy];done))
 case slice t x lo hi mx=>cases lo<;>cases hi<;>cases mx<;>simp_all
 all_goals (first|rfl|(simp_all;done))
end Sx
end
section
namespace Sx
open Go
def bt (u:List (Nat×Ch)):List Nat:=u.map (·.1)
theorem xz {m:Nat}:∀ (u:List (Nat×Ch)) {hp hp':Hp},hp m=hp' m->cG hp u m=cG hp' u m
 | [],_,_,h=>h
 |(c,ch)::r,hp,hp',h=>xz r (by show (if m=c then some ch else hp m)=(if m=c then some ch else hp' m);rw [h])
theorem eo {m:Nat}:∀ (u:List (Nat×Ch)) {hp:Hp},m ∉ bt u->cG hp u m=hp m
 | [],_,_=>rfl
 |(c,ch)::r,hp,h=>by
  have h1:m≠c:=λe=>h (by simp [bt,e])
  have h2:m ∉ bt r:=λe=>h (by simp only [bt,List.map_cons,List.mem_cons];exact .inr e)
  simp only [cG]
  rw [eo r h2]
  simp [h1]
theorem PQ {m:Nat}:∀ (u:List (Nat×Ch)) {hp hp':Hp},m ∈ bt u->cG hp u m=cG hp' u m
 | [],_,_,h=>by simp [bt] at h
 |(c,ch)::r,hp,hp',h=>by
  by_cases h2:m ∈ bt r
  ·exact PQ r h2
  ·have h1:m=c:=by
    simp only [bt,List.map_cons,List.mem_cons] at h
    exact h.resolve_right h2
   simp only [cG]
   rw [eo r h2,eo r h2]
   simp [h1]
theorem MI {m:Nat}:∀ (u:List (Nat×Ch)) {hp:Hp},hp m≠none->cG hp u m≠none
 | [],_,h=>h
 |(c,ch)::r,hp,h=>MI r (by
  show (if m=c then some ch else hp m)≠none
  split
  ·simp
  ·exact h)
theorem put_comm {s:St} {d d':Option Tmp} {e e':Eff} (hd:∀ t,d=some t->d'≠some t) (hn:∀ m,m ∈ bt e.upd->m ∉ bt e'.upd):(s.put d e).put d' e'=(s.put d' e').put d e:=by
 unfold St.put
 congr 1
 ·cases d with
  |none=>rfl
  |some t=>
   cases d' with
   |none=>rfl
   |some t'=>
    simp only [CQ]
    exact List.set_comm _ _ (λh=>hd t rfl (by rw [h]))
 ·funext m
  simp only
  by_cases h':m ∈ bt e'.upd
  ·have h:m ∉ bt e.upd:=λh=>hn m h h'
   rw [PQ e'.upd (hp':=s.hp) h',eo e.upd h]
  ·rw [eo e'.upd h']
   exact xz _ (eo e'.upd h').symm
theorem vt (st:St) (D:Nat->Bool):∀ (F:lS),(bc st D F).tm.length=st.tm.length
 | []=>rfl
 |x::r=>by
  simp only [bc]
  cases D x.1
  ·exact vt st D r
  ·simp only [aV,St.put]
   unfold CQ
   split<;>simp [vt st D r]
theorem gx {st:St} {D D':Nat->Bool}:∀ {F:lS},(∀ x ∈ F,D x.1=D' x.1)->bc st D F=bc st D' F
 | [],_=>rfl
 |x::r,h=>by
  simp only [bc]
  rw [h x (by simp),gx (F:=r) λy hy=>h y (by simp [hy])]
theorem JL {st:St} {D D':Nat->Bool} {m:Nat}:∀ {F:lS},(∀ x ∈ F,D' x.1=true->D x.1=true)->(∀ x ∈ F,D x.1=true->D' x.1=false->m ∉ bt x.2.2.upd)->
 (bc st D F).hp m=(bc st D' F).hp m
 | [],_,_=>rfl
 |x::r,h1,h2=>by
  have ih:=JL (st:=st) (D:=D) (D':=D') (m:=m) (F:=r) (λy hy=>h1 y (by simp [hy])) (λy hy=>h2 y (by simp [hy]))
  simp only [bc]
  cases hd':D' x.1
  ·cases hd:D x.1
   ·exact ih
   ·simp only [aV,bo,St.put]
    rw [eo _ (h2 x (by simp) hd hd')]
    exact ih
  ·rw [h1 x (by simp) hd']
   simp only [aV,St.put]
   exact xz _ ih
theorem HP {st:St} {dst:Option Tmp} {v:SV} {t:Nat} (h:dst≠some t):(CQ st dst v).getD t .fY=st.tm.getD t .fY:=by
 cases dst with
 |none=>rfl
 |some d=>
  have:d≠t:=λe=>h (by rw [e])
  simp [CQ,ju,List.getElem?_set_ne this]
theorem akO {st st':St} {dst:Option Tmp} {v:SV} {t:Nat} (hl:st.tm.length=st'.tm.length) (h:st.tm.getD t .fY=st'.tm.getD t .fY):(CQ st dst v).getD t .fY=(CQ st' dst v).getD t .fY:=by
 cases dst with
 |none=>exact h
 |some d=>
  by_cases e:d=t
  ·subst e
   simp only [CQ,ju,List.getElem?_set,if_true,hl]
  ·rw [HP (by simpa using e),HP (by simpa using e)]
   exact h
theorem WB {st:St} {D D':Nat->Bool} {t:Nat}:∀ {F:lS},(∀ x ∈ F,D' x.1=true->D x.1=true)->(∀ x ∈ F,D x.1=true->D' x.1=false->x.2.1.dst≠some t)->
 (bc st D F).tm.getD t .fY=(bc st D' F).tm.getD t .fY
 | [],_,_=>rfl
 |x::r,h1,h2=>by
  have ih:=WB (st:=st) (D:=D) (D':=D') (t:=t) (F:=r) (λy hy=>h1 y (by simp [hy])) (λy hy=>h2 y (by simp [hy]))
  simp only [bc]
  cases hd':D' x.1
  ·cases hd:D x.1
   ·exact ih
   ·simp only [aV,bo,St.put]
    rw [HP (h2 x (by simp) hd hd')]
    exact ih
  ·rw [h1 x (by simp) hd']
   simp only [aV,St.put]
   exact akO (by rw [vt,vt]) ih
theorem Bj {st:St} {D:Nat->Bool} {i:Nat} {o:Oper} {e:Eff}:∀ {F:lS},(i,o,e) ∈ F->(∀ x ∈ F,x.1=i->x=(i,o,e))->F.Pairwise (λx y=>y.1<x.1)->D i=false->
 (∀ x ∈ F,D x.1=true->i<x.1->(∀ t,o.dst=some t->x.2.1.dst≠some t)/\∀ m,m ∈ bt e.upd->m ∉ bt x.2.2.upd)->
 bc st (λk=>D k||Nat.beq k i) F=(bc st D F).put o.dst e
 | [],hm,_,_,_,_=>by cases hm
 |x::r,hm,hu,hp,hD,hc=>by
  have hp':=List.pairwise_cons.1 hp
  simp only [bc]
  by_cases hx:x.1=i
  ·have:=hu x (by simp) hx
   subst this
   simp only [hD,Bool.false_or,Nat.beq_refl,aV,bo]
   congr 1
   exact gx λy hy=>by
    have:y.1≠i:=Nat.ne_of_lt (hp'.1 y hy)
    simp [this]
  ·have hmr:(i,o,e) ∈ r:=by
    rcases List.mem_cons.1 hm with h|h
    ·exact absurd (by rw [<-h]) hx
    ·exact h
   have hlt:i<x.1:=hp'.1 _ hmr
   have ih:=Bj (st:=st) (F:=r) hmr (λy hy=>hu y (by simp [hy])) hp'.2 hD (λy hy=>hc y (by simp [hy]))
   have hb:Nat.beq x.1 i=false:=by
    cases hq:Nat.beq x.1 i
    ·rfl
    ·exact absurd (aX hq) hx
   simp only [hb,Bool.or_false]
   cases hd:D x.1
   ·exact ih
   ·simp only [aV]
    obtain ⟨c1,c2⟩:=hc x (by simp) hd hlt
    rw [ih,put_comm c1 c2]
end Sx
end
section
namespace Sx
open Go
section
variable {te:TE} {Φ:Env} {ops:Array Oper} {bs:Array Nat} {H:Hid} {st:St}
structure aBH (te:TE) (Φ:Env) (ops:Array Oper) (bs:Array Nat) (H:Hid) (st:St) (r:lS) (i:Nat) (o:Oper) (e:Eff):Prop where
 run:∃ b,guarded ops.toList (bc st (cR bs i) r).tm o=some b/\
  (b=true->(Ly te Φ (aAI (hid H i) (bc st (cR bs i) r).hp) (fg i o) (bc st (cR bs i) r).eval o.op).run=some (.ret e)/\We H i o e.upd=true)/\(b=false->e=⟨.undef,[]⟩)
 upd:ZB Φ bs ops.toList st i o r e.upd=true
def Good (te:TE) (Φ:Env) (ops:Array Oper) (bs:Array Nat) (H:Hid) (st:St):lS->Prop
 | []=>True
 |x::r=>x.1=r.length/\ops[r.length]? =some x.2.1/\aBH te Φ ops bs H st r x.1 x.2.1 x.2.2/\Good te Φ ops bs H st r
theorem Good.mem:∀ {F:lS},Good te Φ ops bs H st F->∀ x ∈ F,x.1<F.length/\ops[x.1]? =some x.2.1
 | [],_,x,hx=>by grind
 |y::r,hg,x,hx=>by
  rcases List.mem_cons.1 hx with h|h
  ·subst h
   exact ⟨by rw [hg.1];simp,by rw [hg.1];exact hg.2.1⟩
  ·obtain ⟨h1,h2⟩:=Good.mem hg.2.2.2 x h
   grind
def auS (te:TE) (Φ:Env) (ops:Array Oper) (bs:Array Nat) (K:SE->St->Prop) (st:St) (F:lS):Prop:=
 ∃ o v u,ops[F.length]? =some o/\(∀ k,k<F.length->cR bs F.length k=true)/\guarded ops.toList (bc st (λ_=>true) F).tm o=some true/\
  (Ly te Φ (bc st (λ_=>true) F).hp (fg F.length o) (bc st (λ_=>true) F).eval o.op).run=some (.pan v u)/\
  K (.pan v) ⟨(bc st (λ_=>true) F).tm,cG (bc st (λ_=>true) F).hp u⟩
theorem ayl {i:Nat} (h:lG H i=false):hid H i= []:=by grind [hid,lG,List.flatMap_eq_nil_iff]
theorem zM {K:SE->St->Prop}:∀ (l:List Oper) (done:lS),Good te Φ ops bs H st done->(∀ k,l[k]? =ops[done.length+k]?)->gE te Φ ops.toList bs H K st done.length l done->
 ∃ F,Good te Φ ops bs H st F/\((F.length=done.length+l.length/\K .normal (bc st (λ_=>true) F))\/(F.length+1=done.length+l.length/\auS te Φ ops bs K st F))
 | [],done,hg,_,h=>⟨done,hg,.inl ⟨rfl,h⟩⟩
 |o::r,done,hg,hl,h=>by
  have ho:ops[done.length]? =some o:=by have:=hl 0;simpa using this.symm
  have hl':∀ k,r[k]? =ops[done.length+1+k]? :=λk=>by
   have:=hl (k+1)
   grind
  simp only [gE] at h
  split at h
  ·exact h.elim
  ·rename_i b hb
   cases b
   ·obtain ⟨F,h1,h2⟩:=zM r ((done.length,o,⟨.undef,[]⟩)::done) ⟨rfl,ho,⟨(by grind),rfl⟩,hg⟩ hl' h
    grind [List.length_cons]
   ·obtain ⟨out,h1,h2⟩:=OT.GO h
    cases out with
    |pan v u=>
     cases hq:Vu bs H r done.length
     ·rw [hq] at h2;exact h2.elim
     ·rw [hq] at h2
      simp only [Vu,av,List.isEmpty_iff,Bool.not_eq_true',fX] at hq
      obtain ⟨rfl,hc,hp⟩:=hq
      have hpre:∀ k,k<done.length->cR bs done.length k=true:=λk hk=>hp k (by simpa using hk)
      have hs:bc st (cR bs done.length) done=bc st (λ_=>true) done:=gx λx hx=>hpre x.1 (Good.mem hg x hx).1
      rw [hs] at h1 hb
      exact ⟨done,hg,.inr ⟨rfl,o,v,u,ho,hpre,hb,by rw [show hid H done.length= [] from ayl hc] at h1;exact h1,h2⟩⟩
    |ret e=>
     simp only at h2
     cases hu:ZB Φ bs ops.toList st done.length o done e.upd
     ·grind
     ·cases hv:We H done.length o e.upd
      ·grind
      rw [hu,hv] at h2
      obtain ⟨F,h4,h5⟩:=zM r ((done.length,o,e)::done) ⟨rfl,ho,⟨(by grind),hu⟩,hg⟩ hl' h2
      grind
theorem Good.pairwise:∀ {F:lS},Good te Φ ops bs H st F->F.Pairwise (λx y=>y.1<x.1)
 | [],_=>by simp
 |y::r,hg=>List.pairwise_cons.2 ⟨λx hx=>by rw [hg.1];exact (Good.mem hg.2.2.2 x hx).1,Good.pairwise hg.2.2.2⟩
theorem Good.aIe:∀ {F:lS},Good te Φ ops bs H st F->∀ x ∈ F,∀ y ∈ F,x.1=y.1->x=y
 | [],_,x,hx,_,_,_=>by grind
 |z::r,hg,x,hx,y,hy,he=>by
  rcases List.mem_cons.1 hx with h|h<;>rcases List.mem_cons.1 hy with h'|h'
  ·grind
  ·have:=(Good.mem hg.2.2.2 y h').1
   rw [h,hg.1] at he
   omega
  ·have:=(Good.mem hg.2.2.2 x h).1
   rw [h',hg.1] at he
   omega
  ·exact Good.aIe hg.2.2.2 x h y h' he
theorem Good.at:∀ {F:lS},Good te Φ ops bs H st F->∀ i,i<F.length->∃ o e r,(i,o,e) ∈ F/\(∀ y ∈ r,y ∈ F)/\r.length=i/\(∀ D:Nat->Bool,(∀ k,i<=k->D k=false)->bc st D F=bc st D r)/\Good te Φ ops bs H st r/\aBH te Φ ops bs H st r i o e
 | [],_,i,h=>by grind
 |y::r,hg,i,h=>by
  by_cases hi:i=r.length
  ·subst hi
   have h1:y.1=r.length:=hg.1
   refine ⟨y.2.1,y.2.2,r,?_,(by grind),rfl,λD hD=> ?_,hg.2.2.2,?_⟩
   ·rw [<-h1];simp
   ·grind [bc]
   ·have:=hg.2.2.1
    grind
  ·have hlt:i<r.length:=by grind
   obtain ⟨o,e,r',h1,h2,h3,h4,h5,h6⟩:=Good.at hg.2.2.2 i hlt
   refine ⟨o,e,r',by grind,(by grind),h3,λD hD=> ?_,h5,h6⟩
   simp [bc]
   rw [hD y.1 (by rw [hg.1];omega)]
   grind
theorem ayc {d n:Nat} (h:VQ d n=true):lF d n:=aX h
theorem Good.names:∀ {F:lS},Good te Φ ops bs H st F->∀ x ∈ F,∀ m ∈ bt x.2.2.upd,(lF (fg x.1 x.2.1) m/\st.hp m=none)\/
 (fj Φ x.2.1.op=2/\(st.hp m≠none\/∃ y ∈ F,cR bs x.1 y.1=true/\lF (fg y.1 y.2.1) m/\y.2.2.upd≠ []))
 | [],_,x,hx,_,_=>by grind
 |z::r,hg,x,hx,m,hm=>by
  rcases List.mem_cons.1 hx with h|h
  ·subst h
   obtain ⟨c,hc,rfl⟩:=List.mem_map.1 hm
   have hu:=hg.2.2.1.upd
   unfold ZB at hu
   have hne:x.2.2.upd.isEmpty=false:=by
    grind
   rw [hne,Bool.false_or,av,fX,fX] at hu
   have h1:=hu.2 c hc
   simp at h1
   grind [ayc]
  ·rcases Good.names hg.2.2.2 x h m hm with h1|⟨h1,h2|⟨y,hy,h3⟩⟩
   ·grind
   ·grind
   grind
theorem s8 {o:Oper} {i:Nat} (h:ops[i]? =some o):ops.getD i default=o:=by simp_all
theorem Good.own:∀ {F:lS},Good te Φ ops bs H st F->∀ x ∈ F,x.2.2.upd≠ []->∀ (k:Nat) (o:Oper),ops[k]? =some o->k≠x.1->fg k o≠fg x.1 x.2.1
 | [],_,x,hx,_,_,_,_,_=>by grind
 |z::r,hg,x,hx,hne,k,o,hk,hkx=>by
  rcases List.mem_cons.1 hx with h|h
  ·subst h
   have hu:=hg.2.2.1.upd
   unfold ZB at hu
   have hne:x.2.2.upd.isEmpty=false:=by
    grind
   rw [hne,Bool.false_or,av,fX] at hu
   have hlt:k<ops.size:=by
    grind
   have h1:=hu.1 k (by grind)
   grind [absurd,aX,Nat.beq_refl]
  ·exact Good.own hg.2.2.2 x h hne k o hk hkx
def B9 (bs:Array Nat) (n:Nat) (D:Nat->Bool):Prop:=∀ k,k<n->D k=true->∀ l,cR bs k l=true->D l=true
theorem Good.origin {F:lS} (hF:Good te Φ ops bs H st F) {D:Nat->Bool} (hD:B9 bs F.length D) {m:Nat} (hm:st.hp m=none):∀ (L:lS),(∀ x ∈ L,x ∈ F)->(bc st D L).hp m≠none->
 ∃ y ∈ F,D y.1=true/\lF (fg y.1 y.2.1) m/\y.2.2.upd≠ []
 | [],_,h=>absurd hm h
 |x::r,hL,h=>by
  have ih:=Good.origin hF hD hm r (by grind)
  simp [bc] at h
  cases hd:D x.1
  ·grind
  ·rw [hd] at h
   simp [St.put] at h
   by_cases hn:m ∈ bt x.2.2.upd
   ·have hx:=hL x (by simp)
    rcases hF.names x hx m hn with ⟨h1,_⟩|⟨_,h1|⟨y,hy,h2,h3,h4⟩⟩
    ·grind [bt]
    ·grind
    ·exact ⟨y,hy,hD x.1 (hF.mem x hx).1 hd _ h2,h3,h4⟩
   grind [eo]
theorem yL {D:Nat->Bool} {m:Nat} (hm:st.hp m≠none):∀ (L:lS),(bc st D L).hp m≠none
 | []=>hm
 |x::r=>by
  have ih:=yL (D:=D) hm r
  simp [bc]
  cases D x.1
  ·grind
  ·exact MI _ ih
end
end Sx
end
section
namespace Sx
open Go
theorem db {a b:Nat} (h:Nat.blt a b=true):a<b:=by simp_all
theorem XW {a b:Nat} (h:a<b):Nat.blt a b=true:=by simp_all
section
variable {te:TE} {Φ:Env} {ops:Array Oper} {bs:Array Nat} {H:Hid} {st:St}
structure OV (Φ:Env) (ops:Array Oper) (i j:Nat) (x y:Oper):Prop where
 xy:∀ d,x.dst=some d->d ∉ y.looksAt ops
 dd:∀ d,x.dst=some d->y.dst≠some d
 yx:∀ d,y.dst=some d->d ∉ x.looksAt ops
 slot:fg i x≠fg j y
theorem OV.symm {i j:Nat} {x y:Oper} (h:OV Φ ops i j x y):OV Φ ops j i y x:=
 ⟨h.yx,λd hd he=>h.dd d he hd,h.xy,λe=>h.slot e.symm⟩
theorem xO {a b:Nat} (h:Nat.beq a b=false):a≠b:=by grind [Nat.beq_refl]
theorem X3 (hok:eI Φ ops bs=true) {i j:Nat} {x y:Oper} (hx:ops[i]? =some x) (hy:ops[j]? =some y) (hij:i<j) (h:cR bs j i=false):OV Φ ops i j x y:=by
 have hj:j<ops.size:=by
  grind
 unfold eI at hok
 rw [fX] at hok
 have h1:=hok j (by grind)
 rw [av,fX] at h1
 have h2:=h1.2 i (by grind)
 unfold aAx at h2
 simp [s8 hx,s8 hy,h] at h2
 obtain ⟨h3,h4⟩:=h2
 obtain ⟨a1,a2,a3⟩:=Oper.apart_spec h3
 exact ⟨a1,a2,a3,xO h4⟩
theorem ahB {i j:Nat} {x y:Oper} (hx:ops[i]? =some x) (hy:ops[j]? =some y) (hij:i<j) (h:cR bs j i=false) (hk:(fj Φ x.op=2/\fj Φ y.op≠0)\/(fj Φ y.op=2/\fj Φ x.op≠0)):(i,j) ∈ yV Φ ops bs:=by
 have hj:j<ops.size:=by
  grind
 refine List.mem_flatMap.2 ⟨j,by grind,List.mem_flatMap.2 ⟨i,by grind,?_⟩⟩
 have:atj Φ ops bs i j=true:=by
  unfold atj
  simp
  grind [Nat.beq,absurd,aX]
 grind
theorem aAJ (hH:H.1=yV Φ ops bs) {i j:Nat} {x y:Oper} (hx:ops[i]? =some x) (hy:ops[j]? =some y) (hij:i≠j) (h:cR bs j i=false) (h':cR bs i j=false) (hk:(fj Φ x.op=2/\fj Φ y.op≠0)\/(fj Φ y.op=2/\fj Φ x.op≠0)):
 lG H i=true/\lG H j=true/\(∀ n ∈ H.2.getD j [],n ∈ hid H i)/\(∀ n ∈ H.2.getD i [],n ∈ hid H j):=by
 have nb:∀ {a b:Nat},a≠b->Nat.beq a b=false:=λ{a b} h=>by
  grind [aX]
 unfold lG hid
 rcases Nat.lt_or_gt_of_ne hij with hlt|hlt
 ·have hm:=ahB hx hy hlt h hk
  grind [Nat.beq_refl]
 ·have hm:=ahB hy hx hlt h' hk.symm
  grind [Nat.beq_refl]
theorem arE {R:List Nat} {hp:Hp} {n:Nat} {ch:Ch} (h:aAI R hp n=some ch):n ∉ R/\hp n=some ch:=by
 cases R with
 |nil=>exact ⟨by simp,h⟩
 |cons a r=>
  have h:cond ((a::r).any λm=>Nat.beq m n) none (hp n)=some ch:=h
  grind [Nat.beq_refl]
theorem agW {R:List Nat} {hp:Hp} {n:Nat} (h:n ∉ R):aAI R hp n=hp n:=by
 cases R with
 |nil=>rfl
 |cons a r=>
  show cond ((a::r).any λm=>Nat.beq m n) none (hp n)=hp n
  grind [aX]
theorem arF {i n:Nat} (h:n ∈ hid H i):lG H i=true:=by
 obtain ⟨p,hp,h⟩:=List.mem_flatMap.1 h
 refine List.any_eq_true.2 ⟨p,hp,?_⟩
 grind
theorem qo {i:Nat} {o:Oper} {u:List (Nat×Ch)} (h:We H i o u=true) (hc:lG H i=true):
 (∀ m ∈ bt u,m ∈ H.2.getD i []/\m ∉ hid H i)/\∀ n ∈ hid H i,¬lF (fg i o) n:=by
 unfold We at h
 refine ⟨λm hm=> ?_,λn hn hb=> ?_⟩
 ·obtain ⟨c,hc,rfl⟩:=List.mem_map.1 hm
  grind [aX]
 grind [Bool.not_eq_true',lF,VQ,Nat.beq_refl]
theorem Good.hid:∀ {F:lS},Good te Φ ops bs H st F->∀ x ∈ F,x.2.2.upd≠ []->We H x.1 x.2.1 x.2.2.upd=true
 | [],_,x,hx,_=>by grind
 |z::r,hg,x,hx,hne=>by
  rcases List.mem_cons.1 hx with h|h
  ·obtain ⟨b,h1,h2,h3⟩:=hg.2.2.1.run
   grind
  ·exact Good.hid hg.2.2.2 x h hne
theorem beside (hok:eI Φ ops bs=true) {i j:Nat} {x y:Oper} (hx:ops[i]? =some x) (hy:ops[j]? =some y) (hij:i≠j) (h:cR bs j i=false) (h':cR bs i j=false):OV Φ ops i j x y:=by
 rcases Nat.lt_or_gt_of_ne hij with hlt|hlt
 ·grind [X3]
 ·exact (X3 hok hy hx hlt h').symm
theorem Ef (hok:eI Φ ops bs=true) {i:Nat} {o:Oper} (ho:ops[i]? =some o):
 (∀ e ∈ o.after,Region.binds .any e=true->e.on<i/\cR bs i e.on=true)/\
 ∀ k,cR bs i k=true->(∀ l,cR bs k l=true->cR bs i l=true)/\∃ e ∈ o.after,Region.binds .any e=true/\(e.on=k\/cR bs e.on k=true):=by
 have hi:i<ops.size:=by
  grind
 unfold eI at hok
 rw [fX] at hok
 have h1:=hok i (by simpa using hi)
 rw [av] at h1
 have h2:=h1.1
 unfold aBj at h2
 rw [av,s8 ho,Array.all_eq_true_iff_forall_mem,fX] at h2
 refine ⟨λe he hb=> ?_,λk hk=> ?_⟩
 ·have h3:=h2.1 e he
  simp_all [Bool.not_true,Bool.false_or,av,db,cR]
 ·unfold cR at hk
  rw [av] at hk
  have h3:=h2.2 k (by simpa using db hk.1)
  rw [hk.2] at h3
  refine ⟨λl hl=> ?_,?_⟩
  ·unfold cR at hl⊢
   rw [av] at hl⊢
   refine ⟨XW (Nat.lt_trans (db hl.1) (db hk.1)),?_⟩
   grind [aX]
  grind [aX]
theorem am4 (hok:eI Φ ops bs=true) {n i:Nat} (hi:i<ops.size):B9 bs n (cR bs i):=λk _ hk l hl=>
 ((Ef hok (Array.getElem?_eq_getElem hi)).2 k hk).1 l hl
structure At (te:TE) (Φ:Env) (ops:Array Oper) (bs:Array Nat) (st:St) (F:lS) (D:Nat->Bool) (i:Nat) (o:Oper) (e:Eff):Prop where
 guard:∃ b,guarded ops.toList (bc st D F).tm o=some b/\(b=true->(Ly te Φ (bc st D F).hp (fg i o) (bc st D F).eval o.op).run=some (.ret e))/\(b=false->e=⟨.undef,[]⟩)
 put:bc st (λk=>D k||Nat.beq k i) F=(bc st D F).put o.dst e
theorem Rd {tm tm':List SV} {o:Oper} (h:∀ t ∈ o.looksAt ops,tm.getD t .fY=tm'.getD t .fY):guarded ops.toList tm o=guarded ops.toList tm' o:=by grind [guarded,bind,Oper.looksAt]
theorem aD2 (op:Op):fj Φ op=0\/fj Φ op=1\/fj Φ op=2:=by
 unfold fj
 grind
theorem aGN (hm:nX Φ) (hH:H.1=yV Φ ops bs) (hok:eI Φ ops bs=true) {F:lS} (hF:Good te Φ ops bs H st F) {D:Nat->Bool} (hD:B9 bs F.length D) {i:Nat} (hi:i<ops.size) (hl:i<F.length) (hDi:D i=false)
 (hpre:∀ k,cR bs i k=true->D k=true):∃ o e,ops[i]? =some o/\At te Φ ops bs st F D i o e:=by
 obtain ⟨o,e,r,hmem,hr,hrl,hback,hgr,hgo⟩:=hF.at i (by omega)
 have ho:ops[i]? =some o:=(hF.mem _ hmem).2
 refine ⟨o,e,ho,?_⟩
 --those that are done and needn't come ahead
 have side:∀ x ∈ F,D x.1=true->cR bs i x.1=false->OV Φ ops i x.1 o x.2.1/\cR bs x.1 i=false/\x.1≠i:=λx hx hd hn=>by
  have hne:i≠x.1:=λe=>by rw [e,hd] at hDi;cases hDi
  have h2:cR bs x.1 i=false:=by
   cases hq:cR bs x.1 i
   ·rfl
   ·rw [hD x.1 (hF.mem x hx).1 hd i hq] at hDi;cases hDi
  exact ⟨beside hok ho (hF.mem x hx).2 hne h2 hn,h2,λe=>hne e.symm⟩
 have hsame:bc st (cR bs i) F=bc st (cR bs i) r:=hback _ λk hk=>by
  unfold cR
  have:Nat.blt k i=false:=by
   cases hq:Nat.blt k i
   ·rfl
   ·have:=db hq;omega
  rw [this];rfl
 obtain ⟨b,hb1,hb2,hb3⟩:=hgo.run
 rw [<-hsame] at hb1 hb2
 have htm:∀ t ∈ o.looksAt ops,(bc st D F).tm.getD t .fY=(bc st (cR bs i) F).tm.getD t .fY:=λt ht=>
  WB (λx _ h=>hpre _ h) λx hx hd hn he=>(side x hx hd hn).1.yx t he ht
 have hev:∀ x ∈ o.op.operands,(bc st D F).eval x=(bc st (cR bs i) F).eval x:=λx hx=>by
  cases x with
  |tmp t=>
   exact htm t (by
    unfold Oper.looksAt
    exact List.mem_append_left _ (List.mem_filterMap.2 ⟨.tmp t,by simpa using hx,rfl⟩))
  |const v=>rfl
  |global g=>rfl
  |func f=>rfl
 have hown:=hF.own _ hmem
 have hnone:∀ n,lF (fg i o) n->((bc st (cR bs i) F).hp n=none ↔ (bc st D F).hp n=none):=λn hn=>by
  by_cases hs:st.hp n=none
  ·have:(bc st D F).hp n=(bc st (cR bs i) F).hp n:=JL (λx _ h=>hpre _ h) λx hx hd hp hin=>by
    obtain ⟨s1,s2,s3⟩:=side x hx hd hp
    rcases hF.names x hx n hin with ⟨h1,_⟩|⟨_,h1|⟨y,hy,h2,h3,h4⟩⟩
    ·exact s1.slot (by unfold lF at hn h1;omega)
    ·exact h1 hs
    ·by_cases hyi:y.1=i
     ·rw [hyi,s2] at h2;cases h2
     ·exact hF.own y hy h4 i o ho (λe=>hyi e.symm) (by unfold lF at hn h3;omega)
   rw [this]
  ·exact ⟨λh=>absurd h (yL hs F),λh=>absurd h (yL hs F)⟩
 refine ⟨⟨b,(Rd htm).trans hb1,λhb=> ?_,hb3⟩,?_⟩
 ·obtain ⟨h0,hh⟩:=hb2 hb
  have hfree:∀ n,lF (fg i o) n->n ∉ hid H i:=λn hn hm=>(qo hh (arF hm)).2 n hm hn
  rw [amZ hev]
  rcases aD2 (Φ:=Φ) o.op with hk|hk
  ·rw [as9 (d:=fg i o) (hp:=aAI (hid H i) (bc st (cR bs i) F).hp) (λn hn=>by rw [agW (hfree n hn)];exact hnone n hn) hk]
   exact h0
  ·refine amY hm (d:=fg i o) (hp:=aAI (hid H i) (bc st (cR bs i) F).hp) ⟨λc ch hc=> ?_,λn hn h=>(hnone n hn).1 (by rw [agW (hfree n hn)] at h;exact h)⟩ h0
   obtain ⟨hcn,hc⟩:=arE hc
   rw [<-hc]
   refine JL (λx _ h=>hpre _ h) λx hx hd hp hin=> ?_
   obtain ⟨s1,s2,s3⟩:=side x hx hd hp
   have hk2:fj Φ x.2.1.op≠2:=λe=>by
    have hk0:fj Φ o.op≠0:=by omega
    obtain ⟨_,q2,q3,_⟩:=aAJ hH ho (hF.mem x hx).2 (Ne.symm s3) s2 hp (.inr ⟨e,hk0⟩)
    have hne:x.2.2.upd≠ []:=λhq=>by rw [hq] at hin;simp [bt] at hin
    exact hcn (q3 c ((qo (hF.hid x hx hne) q2).1 c hin).1)
   rcases hF.names x hx c hin with ⟨h1,h2⟩|⟨h1,_⟩
   ·obtain ⟨y,hy,y1,y2,y3⟩:=hF.origin (am4 hok hi) h2 F (λ_ h=>h) (by rw [hc];simp)
    by_cases hxy:y.1=x.1
    ·rw [hxy,hp] at y1;cases y1
    ·exact hF.own y hy y3 x.1 x.2.1 (hF.mem x hx).2 (λe=>hxy e.symm) (by unfold lF at h1 y2;omega)
   ·exact hk2 h1
 ·refine Bj hmem (λx hx he=>hF.aIe x hx _ hmem he) hF.pairwise hDi λx hx hd hlt=> ?_
  have hn:cR bs i x.1=false:=by
   unfold cR
   have:Nat.blt x.1 i=false:=by
    cases hq:Nat.blt x.1 i
    ·rfl
    ·have:=db hq;omega
   rw [this];rfl
  obtain ⟨s1,s2,s3⟩:=side x hx hd hn
  refine ⟨s1.dd,λm hm1 hm2=> ?_⟩
  have hne:e.upd≠ []:=λhq=>by rw [hq] at hm1;simp [bt] at hm1
  have hne':x.2.2.upd≠ []:=λhq=>by rw [hq] at hm2;simp [bt] at hm2
  have n1:=hF.names _ hmem m hm1
  have n2:=hF.names x hx m hm2
  simp only at n1
  rcases n1 with ⟨a1,a2⟩|⟨a1,a2⟩
  ·rcases n2 with ⟨b1,b2⟩|⟨b1,b2|⟨y,hy,b2,b3,b4⟩⟩
   ·exact s1.slot (by unfold lF at a1 b1;omega)
   ·exact b2 a2
   ·by_cases hyi:y.1=i
    ·rw [hyi,s2] at b2;cases b2
    ·exact hF.own y hy b4 i o ho (λe=>hyi e.symm) (by unfold lF at a1 b3;omega)
  ·rcases n2 with ⟨b1,b2⟩|⟨b1,_⟩
   ·rcases a2 with a2|⟨y,hy,a2,a3,a4⟩
    ·exact a2 b2
    ·by_cases hyx:y.1=x.1
     ·rw [hyx] at a2
      rw [hn] at a2;cases a2
     ·exact hF.own y hy a4 x.1 x.2.1 (hF.mem x hx).2 (λe=>hyx e.symm) (by unfold lF at b1 a3;omega)
   ·obtain ⟨q1,q2,q3,_⟩:=aAJ hH ho (hF.mem x hx).2 (Ne.symm s3) s2 hn (.inl ⟨a1,by rw [b1];decide⟩)
    exact ((qo (hF.hid _ hmem hne) q1).1 m hm1).2 (q3 m ((qo (hF.hid x hx hne') q2).1 m hm2).1)
end
end Sx
end
section
namespace Sx
open Go
def dl (listed:Array Bool) (k:Nat):Bool:=listed.getD k false
theorem NR {listed:Array Bool} {i:Nat} (hi:i<listed.size):dl (listed.setIfInBounds i true)=λk=>dl listed k||Nat.beq k i:=by
 funext k
 unfold dl
 by_cases h:k=i
 ·simp_all
 simp_all [Ne.symm]
theorem cu.drew {R:Ctx} {w:World} (h:cu R w) (n:Nat):cu R {w with drawn:=n}:=by
 refine ⟨h.F,h.U,λc ch hc=> ?_,h.apart,h.FU,h.env⟩
 have:=h.ch c ch hc
 exact this
section
variable {P:Program} {te:TE} {Φ:Env} {ops:Array Oper} {bs:Array Nat} {H:Hid} {st:St}
theorem Oi (hok:eI Φ ops bs=true) {listed:Array Bool} (hs:listed.size=ops.size) (hr:Region.ready .any ops listed= []):∀ k,k<ops.size->dl listed k=true:=by
 intro k
 induction k using Nat.strongRecOn with
 |ind k ih=>
  intro hk
  cases hq:dl listed k
  ·have:k ∈ Region.ready .any ops listed:=mem_ready.2 ⟨by
    grind [dl],ops[k],(by simp),λe he hb=>by
     have:=((Ef hok (Array.getElem?_eq_getElem hk)).1 e he hb).1
     exact ih e.on this (by omega)⟩
   grind
  rfl
theorem aid (hte:kH P te) (hΦ:nW P Φ) (hmono:nX Φ) (hH:H.1=yV Φ ops bs) (hok:eI Φ ops bs=true) {F:lS} (hF:Good te Φ ops bs H st F) (hl:F.length=ops.size)
 {R₀:Ctx} {K:SE->St->Prop} {Q:Exit->Act->World->Prop} (hK:oX R₀ K Q) (hend:K .normal (bc st (λ_=>true) F)):
 ∀ (fuel:Nat) (listed:Array Bool) (R:Ctx) (a:Act) (w:World),listed.size=ops.size->listed.toList.count false=fuel->B9 bs F.length (dl listed)->R₀.Ext R->
  iF R (bc st (dl listed) F) a w->wpAny P .any ops Q fuel listed a w:=by
 have done:∀ (listed:Array Bool) (R:Ctx) (a:Act) (w:World),(∀ k,k<ops.size->dl listed k=true)->R₀.Ext R->iF R (bc st (dl listed) F) a w->Q .normal a w:=λlisted R a w h hx hst=>by
  rw [gx (D':=λ_=>true) λx hx=>h x.1 (by have:=(hF.mem x hx).1;omega)] at hst
  exact hK.normal R _ a w hx hst hend
 intro fuel
 induction fuel with
 |zero=>
  intro listed R a w hs hc hD hx hst
  have hall:∀ k,k<ops.size->dl listed k=true:=λk hk=>by
   have hk':k<listed.size:=by omega
   have h1:=List.count_eq_zero.1 hc
   unfold dl
   cases hq:listed[k]
   ·grind
   ·simp [hk',hq]
  refine ⟨?_,done listed R a w hall hx hst⟩
  simp_all [Region.ready,mem_ready,Array.getElem?_eq_some_iff,dl]
 |succ fuel ih=>
  intro listed R a w hs hc hD hx hst
  refine ⟨λhr=>done listed R a w (Oi hok hs hr) hx hst,λi hi=> ?_⟩
  obtain ⟨h1,o,ho,h2⟩:=mem_ready.1 hi
  have hi':i<ops.size:=(Array.getElem?_eq_some_iff.1 ho).1
  have hil:i<listed.size:=by omega
  have hnot:listed[i]=false:=by simpa [hil] using h1
  have hDi:dl listed i=false:=by unfold dl;simp [hil,hnot]
  have hpre:∀ k,cR bs i k=true->dl listed k=true:=λk hk=>by
   obtain ⟨e,he,hb,h3|h3⟩:=((Ef hok ho).2 k hk).2
   ·rw [<-h3];exact h2 e he hb
   ·have h4:=((Ef hok ho).1 e he hb).1
    exact hD e.on (by omega) (h2 e he hb) k h3
  obtain ⟨o',e,ho',hat⟩:=aGN hmono hH hok hF hD hi' (by omega) hDi hpre
  rw [ho] at ho'
  cases ho'
  have hset:=NR hil
  have hcount:(listed.setIfInBounds i true).toList.count false=fuel:=by
   grind
  have hclosed:B9 bs F.length (dl (listed.setIfInBounds i true)):=λk hk hd l hpl=>by
   rw [hset] at hd⊢
   simp only [Bool.or_eq_true] at hd⊢
   rcases hd with hd|hd
   ·exact .inl (hD k hk hd l hpl)
   simp_all
  obtain ⟨b,g1,g2,g3⟩:=hat.guard
  have hw:=fN hst g1
  unfold wpOp
  simp only [ho,hw]
  cases b
  ·refine ih _ R _ _ (by simpa using hs) hcount hclosed hx ?_
   rw [hset,hat.put,g3 rfl]
   exact hst.undef o.dst
  ·simp only [if_true]
   refine .inl (lR hte hΦ hst (g2 rfl) ?_)
   exact λR' w' v ha hv=>ih _ R' _ _ (by simpa using hs) hcount hclosed (hx.trans ha.ext) (by rw [hset,hat.put];exact hst.put ha hv o.dst)
theorem aur (hte:kH P te) (hΦ:nW P Φ) (hmono:nX Φ) (hH:H.1=yV Φ ops bs) (hok:eI Φ ops bs=true) {F:lS} (hF:Good te Φ ops bs H st F) (hl:F.length+1=ops.size)
 {R₀:Ctx} {K:SE->St->Prop} {Q:Exit->Act->World->Prop} (hK:oX R₀ K Q) (hp:auS te Φ ops bs K st F):
 ∀ (fuel:Nat) (listed:Array Bool) (R:Ctx) (a:Act) (w:World),listed.size=ops.size->listed.toList.count false=fuel->B9 bs F.length (dl listed)->dl listed F.length=false->R₀.Ext R->
  iF R (bc st (dl listed) F) a w->wpAny P .any ops Q fuel listed a w:=by
 obtain ⟨ol,pv,pu,ho0,hpre0,hg0,hc0,hk0⟩:=hp
 intro fuel
 induction fuel with
 |zero=>
  intro listed R a w hs hc hD hlast hx hst
  have hk':F.length<listed.size:=by omega
  have h1:=List.count_eq_zero.1 hc
  unfold dl at hlast
  simp only [Array.getD_eq_getD_getElem?,Array.getElem?_eq_getElem hk',Option.getD_some] at hlast
  grind
 |succ fuel ih=>
  intro listed R a w hs hc hD hlast hx hst
  refine ⟨λhr=>(by grind [Oi]),λi hi=> ?_⟩
  obtain ⟨h1,o,ho,h2⟩:=mem_ready.1 hi
  have hi':i<ops.size:=(Array.getElem?_eq_some_iff.1 ho).1
  have hil:i<listed.size:=by omega
  have hnot:listed[i]=false:=by simpa [hil] using h1
  have hDi:dl listed i=false:=by unfold dl;simp [hil,hnot]
  have hpre:∀ k,cR bs i k=true->dl listed k=true:=λk hk=>by
   obtain ⟨e,he,hb,h3|h3⟩:=((Ef hok ho).2 k hk).2
   ·rw [<-h3];exact h2 e he hb
   ·have h4:=((Ef hok ho).1 e he hb).1
    exact hD e.on (by omega) (h2 e he hb) k h3
  by_cases hlt:i<F.length
  case neg=>
   have hie:i=F.length:=by omega
   subst hie
   rw [ho] at ho0
   cases ho0
   rw [gx (D':=λ_=>true) λx hx=>hpre x.1 (hpre0 x.1 (hF.mem x hx).1)] at hst
   have hw:=fN hst hg0
   unfold wpOp
   simp only [ho,hw,if_true]
   refine .inl (lR hte hΦ hst hc0 ?_)
   exact λR' w' v ha hv=>hK.pan R' _ a w' pv v (hx.trans ha.ext) (hst.Te ha) hv hk0
  obtain ⟨o',e,ho',hat⟩:=aGN hmono hH hok hF hD hi' hlt hDi hpre
  rw [ho] at ho'
  cases ho'
  have hset:=NR hil
  have hcount:(listed.setIfInBounds i true).toList.count false=fuel:=by
   grind
  have hclosed:B9 bs F.length (dl (listed.setIfInBounds i true)):=λk hk hd l hpl=>by
   rw [hset] at hd⊢
   simp only [Bool.or_eq_true] at hd⊢
   rcases hd with hd|hd
   ·exact .inl (hD k hk hd l hpl)
   simp_all
  have hlast':dl (listed.setIfInBounds i true) F.length=false:=by
   grind [aX]
  obtain ⟨b,g1,g2,g3⟩:=hat.guard
  have hw:=fN hst g1
  unfold wpOp
  simp only [ho,hw]
  cases b
  ·refine ih _ R _ _ (by simpa using hs) hcount hclosed hlast' hx ?_
   rw [hset,hat.put,g3 rfl]
   exact hst.undef o.dst
  ·simp only [if_true]
   refine .inl (lR hte hΦ hst (g2 rfl) ?_)
   exact λR' w' v ha hv=>ih _ R' _ _ (by simpa using hs) hcount hclosed hlast' (hx.trans ha.ext) (by rw [hset,hat.put];exact hst.put ha hv o.dst)
theorem aBl (hm:P.follows .mixedOrders=true) (hte:kH P te) (hΦ:nW P Φ) (hmono:nX Φ):FP P te Φ:=by
 intro R₀ id ops K Q R st a w hK hx hst hok h
 obtain ⟨F,h1,h2⟩:=zM (te:=te) (Φ:=Φ) (ops:=ops) (bs:=bitsOf ops) (H:=Wf te Φ ops (bitsOf ops) st) (st:=st) ops.toList [] trivial (by simp) h
 have hd0:∀ k,dl (Array.replicate ops.size false) k=false:=λk=>by simp [dl,Array.getD]
 have hcl:B9 (bitsOf ops) F.length (dl (Array.replicate ops.size false)):=λk _ hd=>by grind
 have hst':bc st (dl (Array.replicate ops.size false)) F=st:=by
  rw [gx (D':=λ_=>false) (by grind)]
  clear h h1 h2 hcl
  induction F with
  |nil=>rfl
  |cons y r ih=>exact ih
 rcases h2 with ⟨h2,h3⟩|⟨h2,h3⟩
 ·refine wp_region_any hm (aid hte hΦ hmono A9 hok h1 (by grind) hK h3 ops.size _ R a _ (by simp) (by simp) hcl hx ?_)
  rw [hst']
  exact ⟨hst.hp,hst.mem.drew _,hst.tm,hst.defers⟩
 ·refine wp_region_any hm (aur hte hΦ hmono A9 hok h1 (by grind) hK h3 ops.size _ R a _ (by simp) (by simp) hcl (hd0 _) hx ?_)
  rw [hst']
  exact ⟨hst.hp,hst.mem.drew _,hst.tm,hst.defers⟩
end
end Sx
end
section
namespace Sx
open Go
def tW (ok:Nat->Bool) (t:Ty) (hp:Hp):SV->Option (List t.T)
 |.lst t' xs=>b7 t t' xs
 |.emp=>some []
 |.own c e|.clip c e=>match hp c with
  |some ⟨ep,.row t' xs⟩=>cond (Nat.beq ep e&&ok c) (b7 t t' xs) none
  |some ⟨ep,.frz t' xs⟩=>cond (Nat.beq ep e) (b7 t t' xs) none
  |_=>none
 |.part c e off len=>match hp c with
  |some ⟨ep,.row t' xs⟩=>cond (Nat.beq ep e&&ok c) ((b7 t t' xs).map λl=>(l.drop off).take len) none
  |some ⟨ep,.frz t' xs⟩=>cond (Nat.beq ep e) ((b7 t t' xs).map λl=>(l.drop off).take len) none
  |_=>none
 |_=>none
def kp (ok:Nat->Bool) (hp:Hp):(t:Ty)->List SV->Option t.T
 |.bool,cs=>alf cs
 |.u64,cs=>aFd cs
 |.u8,cs=>pU8 cs
 |.int,cs=>aFg cs
 |.str,cs=>aFe cs
 |.elem,cs=>ale cs
 |.prod a b,cs=>sw (kp ok hp a (cs.take a.size)) (kp ok hp b (cs.drop a.size))
 |.arr n t,cs=>if cs.length=n*t.size then (List.range n).mapM λi=>kp ok hp t ((cs.drop (i*t.size)).take t.size) else none
 |.list t,cs=>if 0<t.size then aFf (tW ok t hp) cs else none
section
variable {R:Ctx} {w:World} {F':Nat->Option Obj} {ok:Nat->Bool} (hm:cu R w) (hF:∀ b o,R.F b=some o->F' b=some o)
 (hok:∀ c ch L,ok c=true->R.hp c=some ch->R.σ c=some L->F' L.block=w.heap[L.block]?)
include hm hF hok
theorem Fh {c e off len:Nat} {v:Value} {t:Ty} {xs:List t.T} {b:Chunk} (hc:R.hp c=some ⟨e,b⟩) (hb:(b=.row t xs/\ok c=true)\/b=.frz t xs) (h:R.part c e off len v):
 Rep F' (.list t) ((xs.drop off).take len) [v]:=by
 obtain ⟨h1,h2,ad,cap,rfl,h4,h5⟩:=Ctx.cD hc h
 have hsh:b.shape=(true,t.size,xs.length):=by rcases hb with ⟨rfl,_⟩|rfl<;>rfl
 rw [hsh] at h2 h5
 simp only at h2 h5
 have hlen:((xs.drop off).take len).length=len:=by simp;omega
 have hch:=hm.ch c _ hc
 have key:∀ (L:Loc) (arr:Array Value) (E:TypeId) (fz:Nat×Nat),R.σ c=some L->xs.length<=cE->F' L.block=some (.cells arr E fz)->arr.size=L.base+L.lim->xs.length*t.size<=L.lim->Ss R arr L.base t xs->
  Rep F' (.list t) ((xs.drop off).take len) [.slice ad len cap]:=λL arr E fz hσ hmx hbk ha hl hrow=>by
  rw [hσ] at h5
  obtain ⟨h6,h7⟩:=h5
  refine ⟨by omega,ad,cap,by rw [hlen],by omega,?_⟩
  by_cases hl0:len=0
  ·left;exact wI (by omega)
  ·right
   have hle:(off+len)*t.size<=xs.length*t.size:=cf _ h2
   rw [Nat.add_mul] at hle
   refine ⟨L.block,L.base+off*t.size,arr,E,fz,h7 (by omega),hbk,by rw [hlen];omega,λi hi=> ?_⟩
   rw [hlen] at hi
   have e1:((xs.drop off).take len).getD i t.d=xs.getD (off+i) t.d:=by
    grind
   rw [e1,Nat.add_assoc,<-Nat.add_mul]
   exact bO hF _ _ _ (hrow _ (by omega))
 cases hσ:R.σ c with
 |none=>
  simp_all [wI,uj]
 |some L=>
  rcases hb with ⟨rfl,hk⟩|rfl
  ·simp only [eG,hσ] at hch
   obtain ⟨_,hmx,_,_,arr,E,hbk,ha,hl,hrow⟩:=hch
   exact key L arr E _ hσ hmx (by rw [hok c _ L hk hc hσ];exact hbk) ha hl hrow
  ·simp only [eG,hσ] at hch
   obtain ⟨_,hmx,arr,E,fz,hbk,ha,hl,hrow⟩:=hch
   exact key L arr E fz hσ hmx (hF _ _ hbk) ha hl hrow
theorem qT {c e:Nat} {t t':Ty} {xs:List t'.T} {ys:List t.T} {v:Value} {b:Chunk} (hc:R.hp c=some ⟨e,b⟩) (hb:(b=.row t' xs/\ok c=true)\/b=.frz t' xs) (hy:b7 t t' xs=some ys) (h:R.own c e v):
 Rep F' (.list t) ys [v]:=by
 obtain ⟨e,rfl⟩:=bf hy
 have:=Fh hm hF hok hc hb (Ctx.cN hc h)
 have hsh:b.shape=(true,t'.size,xs.length):=by rcases hb with ⟨rfl,_⟩|rfl<;>rfl
 grind
theorem Fg {c e off len:Nat} {t t':Ty} {xs:List t'.T} {ys:List t.T} {v:Value} {b:Chunk} (hc:R.hp c=some ⟨e,b⟩) (hb:(b=.row t' xs/\ok c=true)\/b=.frz t' xs)
 (hy:(b7 t t' xs).map (λl=>(l.drop off).take len)=some ys) (h:R.part c e off len v):Rep F' (.list t) ys [v]:=by
 cases hr:b7 t t' xs with
 |none=>grind
 |some zs=>
  rw [hr] at hy
  cases hy
  obtain ⟨e,rfl⟩:=bf hr
  subst e
  exact Fh hm hF hok hc hb h
theorem XS {t:Ty} {x:SV} {ys:List t.T} {v:Value} (h:tW ok t R.hp x=some ys) (hx:SV.rel R x v):Rep F' (.list t) ys [v]:=by
 cases x<;>simp only [tW] at h<;>try (cases h;done)
 case lst t' xs=>
  obtain ⟨e,rfl⟩:=bf h
  grind [SV.rel,bO]
 case emp=>
  grind [SV.rel,uj]
 case own c e=>
  simp only [SV.rel] at hx
  split at h
  ·rename_i ep t' xs hc
   cases hb:Nat.beq ep e&&ok c
   ·rw [hb] at h;cases h
   ·rw [hb] at h
    rw [av] at hb
    have:=aX hb.1
    subst this
    exact qT hm hF hok hc (.inl ⟨rfl,hb.2⟩) h hx.2
  ·rename_i ep t' xs hc
   cases hb:Nat.beq ep e
   ·rw [hb] at h;cases h
   ·rw [hb] at h
    have:=aX hb
    subst this
    exact qT hm hF hok hc (.inr rfl) h hx.2
  ·cases h
 case clip c e=>
  split at h
  ·rename_i ep t' xs hc
   cases hb:Nat.beq ep e&&ok c
   ·rw [hb] at h;cases h
   ·rw [hb] at h
    rw [av] at hb
    have:=aX hb.1
    subst this
    exact qT hm hF hok hc (.inl ⟨rfl,hb.2⟩) h hx.2.1
  ·rename_i ep t' xs hc
   cases hb:Nat.beq ep e
   ·rw [hb] at h;cases h
   ·rw [hb] at h
    have:=aX hb
    subst this
    exact qT hm hF hok hc (.inr rfl) h hx.2.1
  ·cases h
 case part c e off len=>
  split at h
  ·rename_i ep t' xs hc
   cases hb:Nat.beq ep e&&ok c
   ·rw [hb] at h;cases h
   ·rw [hb] at h
    rw [av] at hb
    have:=aX hb.1
    subst this
    exact Fg hm hF hok hc (.inl ⟨rfl,hb.2⟩) h hx.2
  ·rename_i ep t' xs hc
   cases hb:Nat.beq ep e
   ·rw [hb] at h;cases h
   ·rw [hb] at h
    have:=aX hb
    subst this
    exact Fg hm hF hok hc (.inr rfl) h hx.2
  ·cases h
theorem n0:∀ (t:Ty) (cs:List SV) (x:t.T) (vs:List Value),kp ok R.hp t cs=some x->SV.bx R cs vs->Rep F' t x vs
 |.bool,cs,x,vs,h,hr=>bO hF _ _ _ (ii hm .bool cs x vs h hr)
 |.u64,cs,x,vs,h,hr=>bO hF _ _ _ (ii hm .u64 cs x vs h hr)
 |.u8,cs,x,vs,h,hr=>bO hF _ _ _ (ii hm .u8 cs x vs h hr)
 |.int,cs,x,vs,h,hr=>bO hF _ _ _ (ii hm .int cs x vs h hr)
 |.str,cs,x,vs,h,hr=>bO hF _ _ _ (ii hm .str cs x vs h hr)
 |.elem,cs,x,vs,h,hr=>bO hF _ _ _ (ii hm .elem cs x vs h hr)
 |.prod a b,cs,x,vs,h,hr=>by
  obtain ⟨h1,h2⟩:=aU h
  have r1:=n0 a _ _ _ h1 (SV.cP hr a.size)
  have r2:=n0 b _ _ _ h2 (SV.cQ hr a.size)
  refine ⟨?_,r1,r2⟩
  grind [List.take_append_drop,bR,Oq]
 |.arr n t,cs,x,vs,h,hr=>by
  simp only [kp] at h
  split at h
  ·rename_i hl
   obtain ⟨h1,h2⟩:=sH t.d h
   refine ⟨by rw [SV.aJ hr,hl],by grind,λi hi=> ?_⟩
   have:=h2 i (by simpa using hi)
   simp at this
   exact n0 t _ _ _ this (SV.cP (SV.cQ hr (i*t.size)) t.size)
  ·cases h
 |.list t,cs,x,vs,h,hr=>by
  simp only [kp] at h
  split at h
  ·obtain ⟨y,rfl,hy⟩:=n8 h
   obtain ⟨v,rfl,hv⟩:=bW hr
   grind [XS]
  ·cases h
end
theorem nh {ok:Nat->Bool} {hp:Hp}:∀ {t:Ty} {cs:List SV} {x:t.T},kp ok hp t cs=some x->cs.length=t.size
 |.bool,cs,x,h=>by rw [MT h];rfl
 |.u64,cs,x,h=>by rw [U6 h];rfl
 |.u8,cs,x,h=>by rw [agd h];rfl
 |.int,cs,x,h=>by rw [U8 h];rfl
 |.str,cs,x,h=>by rw [U7 h];rfl
 |.elem,cs,x,h=>by rw [MS h];rfl
 |.prod a b,cs,x,h=>by
  obtain ⟨h1,h2⟩:=aU h
  have l1:=nh h1
  have l2:=nh h2
  grind [Ty.size]
 |.arr n t,cs,x,h=>by
  simp only [kp] at h
  split at h
  ·assumption
  grind
 |.list t,cs,x,h=>by
  simp only [kp] at h
  split at h
  ·obtain ⟨y,rfl,_⟩:=n8 h
   rfl
  grind
end Sx
end
section
namespace Sx
open Go
inductive Sh where
 |val (b:Bool) (t:Ty)
 |own (n:Nat)
 |ptr (n i off:Nat)
 |fn (f:FuncId) (ns:List Nat)
 |ifp (t:TypeId) (n:Nat)
 |ife (t:TypeId)
 |mix (a:Ty) (n:Nat) (b:Ty)
 |rI|fh|undef
def Sh.T:Sh->Type
 |.val _ t=>t.T
 |.mix a _ b=>a.T×(Unit×b.T)
 |.ife _=>Int
 |_=>Unit
inductive CSh where
 |row (t:Ty)
 |frz (t:Ty)
 |cells (l:List Sh)
 |gone
def ShT:List Sh->Type
 | []=>Unit
 |s::r=>s.T×ShT r
def CSh.T:CSh->Type
 |.row t=>List t.T
 |.frz t=>List t.T
 |.cells l=>ShT l
 |.gone=>Unit
def CSh.ep:CSh->Nat
 |.gone=>1
 |_=>0
def CSh.iz:CSh->Bool
 |.gone=>true
 |_=>false
def FO:List (Nat×CSh)->Type
 | []=>Unit
 |c::r=>c.2.T×FO r
def SlT:List (Nat×Sh)->Type
 | []=>Unit
 |c::r=>c.2.T×SlT r
abbrev Bd:=List (Nat×Option Nat)
def du:Bd->Nat->Option (Option Nat)
 | [],_=>none
 |(m,o)::r,n=>cond (Nat.beq m n) (some o) (du r n)
def Sj (b:Bd) (n:Nat) (o:Option Nat):Bd:=match du b n with
 |some _=>b
 |none=>(n,o)::b
def Gw:List Nat->List SV->Bd->Bd
 |n::ns,.ptr c _ _ _::r,b=>Gw ns r (Sj b n (some c))
 |_,_,b=>b
def aGG (n:Nat) (x:SV) (b:Bd):Bd:=match x with
 |.own c _=>Sj b n (some c)
 |.emp=>Sj b n none
 |_=>b
def Se:Sh->SV->Bd->Bd
 |.own n,.own c _,b=>Sj b n (some c)
 |.own n,.emp,b=>Sj b n none
 |.ptr n _ _,.ptr c _ _ _,b=>Sj b n (some c)
 |.fn _ ns,.fn _ _ caps,b=>Gw ns caps b
 |.ifp _ n,.iface _ (.ptr c _ _ _),b=>Sj b n (some c)
 |.mix t n _,.agg cs,b=>aGG n (cs.getD t.size .fY) b
 |_,_,b=>b
def Sh.size:Sh->Nat
 |.val _ t=>t.size
 |.mix a _ b=>a.size+1+b.size
 |_=>1
def oD:List Sh->List SV->Bd->Bd
 |s::r,cs,b=>oD r (cs.drop s.size) (Se s (cs.headD .fY) b)
 | [],_,b=>b
def oC (tm:List SV):List (Nat×Sh)->Bd->Bd
 |(i,s)::r,b=>oC tm r (Se s (tm.getD i .fY) b)
 | [],b=>b
def fb (hp:Hp):List (Nat×CSh)->Bd->Bd
 |(n,.cells l)::r,b=>fb hp r (match du b n with
  |some (some c)=>match hp c with
   |some ⟨_,.cells vs⟩=>oD l vs b
   |_=>b
  |_=>b)
 |_::r,b=>fb hp r b
 | [],b=>b
def Dp (bd:Bd) (hp:Hp) (n c e:Nat):Bool:=match du bd n with
 |some (some c')=>Nat.beq c' c&&(match hp c with
  |some ch=>Nat.beq ch.ep e
  |none=>false)
 |_=>false
def I4 (bd:Bd) (n:Nat):Bool:=match du bd n with
 |some none=>true
 |_=>false
def zm (bd:Bd) (hp:Hp):List Nat->List SV->Bool
 | [],[]=>true
 |n::ns,.ptr c e i off::r=>Dp bd hp n c e&&Nat.beq i 0&&Nat.beq off 0&&zm bd hp ns r
 |_,_=>false
def H9 (b:Bool):Option Unit:=cond b (some ()) none
def lB (bd:Bd) (hp:Hp):Sh->List SV->Bool
 |.own n,[.own c e]=>Dp bd hp n c e
 |.own n,[.emp]=>I4 bd n
 |.ptr n i off,[.ptr c e i' off']=>Dp bd hp n c e&&Nat.beq i i'&&Nat.beq off off'
 |.fn f ns,[.fn (.func f') [] caps]=>Nat.beq f f'&&zm bd hp ns caps
 |.ifp t n,[.iface t' (.ptr c e i off)]=>Nat.beq t t'&&(Dp bd hp n c e&&(Nat.beq i 0&&Nat.beq off 0))
 |.rI,[.rI]=>true
 |.fh,[.fh]=>true
 |.undef,[.undef]=>true
 |_,_=>false
def aD7 (t:TypeId):List SV->Option Int
 | [.iface t' (.agg [.int x])]=>cond (Nat.beq t t') (some x) none
 |_=>none
def sk (bd:Bd) (ok:Nat->Bool) (hp:Hp):(s:Sh)->List SV->Option s.T
 |.val _ t=>λcs=>kp ok hp t cs
 |.own n=>λcs=>H9 (lB bd hp (.own n) cs)
 |.ptr n i off=>λcs=>H9 (lB bd hp (.ptr n i off) cs)
 |.fn f ns=>λcs=>H9 (lB bd hp (.fn f ns) cs)
 |.ifp t n=>λcs=>H9 (lB bd hp (.ifp t n) cs)
 |.ife t=>λcs=>aD7 t cs
 |.mix a n b=>λcs=>sw (kp ok hp a (cs.take a.size)) (sw (H9 (lB bd hp (.own n) ((cs.drop a.size).take 1))) (kp ok hp b ((cs.drop a.size).drop 1)))
 |.rI=>λcs=>H9 (lB bd hp .rI cs)
 |.fh=>λcs=>H9 (lB bd hp .fh cs)
 |.undef=>λcs=>H9 (lB bd hp .undef cs)
def oo:(s:Sh)->s.T->List SV
 |.val _ t,x=>unpack t x
 |.own n,_=> [.own n 0]
 |.ptr n i off,_=> [.ptr n 0 i off]
 |.fn f ns,_=> [.fn (.func f) [] (ns.map λn=>.ptr n 0 0 0)]
 |.ifp t n,_=> [.iface t (.ptr n 0 0 0)]
 |.ife t,x=> [.iface t (.agg [.int x])]
 |.mix a n b,x=>unpack a x.1++([.own n 0]++unpack b x.2.2)
 |.rI,_=> [.rI]
 |.fh,_=> [.fh]
 |.undef,_=> [.undef]
def Sh.agg:Sh->Bool
 |.val b _=>b
 |.mix .. =>true
 |_=>false
def TV:Bool->SV->Option (List SV)
 |true,.agg l=>some l
 |true,_=>none
 |false,x=>some [x]
def CS (bd:Bd) (ok:Nat->Bool) (hp:Hp) (s:Sh) (x:SV):Option s.T:=
 match TV s.agg x with
 |some l=>sk bd ok hp s l
 |none=>none
def sU (s:Sh) (x:s.T):SV:=rF s.agg (oo s x)
def li (bd:Bd) (ok:Nat->Bool) (hp:Hp):(l:List Sh)->List SV->Option (ShT l)
 | [],[]=>some ()
 | [],_::_=>none
 |s::r,cs=>sw (sk bd ok hp s (cs.take s.size)) (li bd ok hp r (cs.drop s.size))
def lE:(l:List Sh)->ShT l->List SV
 | [],_=> []
 |s::r,x=>oo s x.1++lE r x.2
def uN (bd:Bd) (ok:Nat->Bool) (hp:Hp) (tm:List SV):(l:List (Nat×Sh))->Option (SlT l)
 | []=>some ()
 |c::r=>sw (CS bd ok hp c.2 (tm.getD c.1 .fY)) (uN bd ok hp tm r)
def gP:(l:List (Nat×Sh))->SlT l->List SV->List SV
 | [],_,tm=>tm
 |c::r,x,tm=>gP r x.2 (tm.set c.1 (sU c.2 x.1))
def iS (bd:Bd) (ok:Nat->Bool) (hp:Hp):(s:CSh)->Chunk->Option s.T
 |.row t,.row t' xs=>b7 t t' xs
 |.row _,_=>none
 |.frz t,.frz t' xs=>b7 t t' xs
 |.frz _,_=>none
 |.cells l,.cells vs=>li bd ok hp l vs
 |.cells _,_=>none
 |.gone,_=>none
def JB:(s:CSh)->Option s.T
 |.gone=>some ()
 |_=>none
def Qf:(s:CSh)->Option s.T
 |.row t=>cond (Nat.blt 0 t.size) (some ([]:List t.T)) none
 |_=>none
def cv:(s:CSh)->s.T->Chunk
 |.row t,xs=>.row t xs
 |.frz t,xs=>.frz t xs
 |.cells l,x=>.cells (lE l x)
 |.gone,_=>.row .u8 []
def kl (bd:Bd) (ok:Nat->Bool) (hp:Hp) (n:Nat) (s:CSh):Option s.T:=
 match du bd n with
 |some (some c)=>match hp c with
  |some ch=>iS bd ok hp s ch.body
  |none=>none
 |some none=>Qf s
 |none=>JB s
def eT (bd:Bd) (ok:Nat->Bool) (hp:Hp):(l:List (Nat×CSh))->Option (FO l)
 | []=>some ()
 |c::r=>sw (kl bd ok hp c.1 c.2) (eT bd ok hp r)
def dH:(l:List (Nat×CSh))->FO l->Hp
 | [],_=>λ_=>none
 |c::r,x=>λn=>cond (Nat.beq n c.1) (some ⟨c.2.ep,cv c.2 x.1⟩) (dH r x.2 n)
def aD3 (c:Nat) (p:Nat×Option Nat):Bool:=match p.2 with
 |some o=>Nat.beq o c
 |none=>false
def tj (lists:Bool) (bd:Bd) (c:Nat):Bool:=lists&& !(bd.any (aD3 c))
structure Shape where
 n:Nat
 awW:List (Nat×Sh)
 chunks:List (Nat×CSh)
 fixed:Nat
 lists:Bool:=true
abbrev Shape.T (s:Shape):Type:=SlT s.awW×FO s.chunks
def Shape.inj (s:Shape) (x:s.T):St:=⟨gP s.awW x.1 (List.replicate s.n .fY),dH s.chunks x.2⟩
def Shape.bd (s:Shape) (st:St):Bd:=fb st.hp s.chunks (oC st.tm s.awW (((List.range s.fixed).filter λk=> !(s.chunks.any λc=>Nat.beq c.1 k&&c.2.iz)).map λk=>(k,some k)))
def distinct:List Nat->Bool
 | []=>true
 |x::r=> !(r.any λy=>Nat.beq x y)&&distinct r
def Shape.KT (s:Shape) (st:St) (bd:Bd):Bool:=
 distinct (s.chunks.map (·.1))&&
 s.chunks.all (λc=>s.chunks.all λc'=>Nat.beq c.1 c'.1||(match du bd c.1,du bd c'.1 with
  |some (some o),some (some o')=> !Nat.beq o o'
  |_,_=>true))&&
 bd.all (λp=>s.chunks.any λc=>Nat.beq c.1 p.1)&&
 (List.range s.fixed).all λk=>(match du bd k with
  |some (some c)=>Nat.beq c k&&(match st.hp k with
   |some ch=>Nat.beq ch.ep 0
   |none=>false)
  |some none=>false
  |none=>s.chunks.any λc=>Nat.beq c.1 k&&c.2.iz)
def Shape.prj (s:Shape) (st:St):Option s.T:=
 let bd:=s.bd st
 cond (s.KT st bd&&Nat.beq st.tm.length s.n) (sw (uN bd (tj s.lists bd) st.hp st.tm s.awW) (eT bd (tj s.lists bd) st.hp s.chunks)) none
def Shape.on (s:Shape) (st:St) (k:s.T->Prop):Prop:=match s.prj st with
 |some x=>k x
 |none=>False
end Sx
end
section
namespace Sx
open Go
theorem gO {b:Bool} {x:Unit} (h:H9 b=some x):b=true:=by
 cases b
 ·cases h
 rfl
theorem fk {bd:Bd} {hp:Hp} {s:Sh} {cs:List SV} (h:lB bd hp s cs=true):∃ y,cs= [y]:=by
 unfold lB at h
 grind
theorem PW {bd:Bd} {ok:Nat->Bool} {hp:Hp} {s:Sh} {cs:List SV} {x:s.T} (h:sk bd ok hp s cs=some x):(oo s x).length=cs.length:=by
 cases s<;>simp [sk] at h
 case val b t=>rw [nh h];exact gG t x
 case mix a n b=>
  obtain ⟨h1,h2⟩:=aU h
  grind [aU,nh,fk,gO,oo,bR,gG,fI,gD,List.length_cons,List.length_nil]
 case ife t=>
  unfold aD7 at h
  split at h
  ·rfl
  grind
 all_goals (obtain ⟨y,rfl⟩:=fk (gO h);rfl)
theorem mc {bd:Bd} {ok:Nat->Bool} {hp:Hp}:∀ {l:List Sh} {cs:List SV} {x:ShT l},li bd ok hp l cs=some x->(lE l x).length=cs.length
 | [],[],_,_=>rfl
 | [],_::_,_,h=>by cases h
 |s::r,cs,x,h=>by
  obtain ⟨h1,h2⟩:=aU h
  have l1:=PW h1
  have l2:=mc h2
  grind [lE]
theorem wq {bd:Bd} {ok:Nat->Bool} {hp:Hp} {s:CSh} {b:Chunk} {y:s.T} (h:iS bd ok hp s b=some y):(cv s y).shape=b.shape:=by
 cases s<;>cases b<;>simp [iS] at h<;>first|rfl|skip
 case row.row t t' xs=>
  obtain ⟨e,rfl⟩:=bf h
  subst e
  rfl
 case frz.frz t t' xs=>
  obtain ⟨e,rfl⟩:=bf h
  subst e
  rfl
 case cells.cells l vs=>
  simp [cv,Chunk.shape,mc h]
theorem dL {bd:Bd} {ok:Nat->Bool} {hp:Hp}:∀ {l:List (Nat×CSh)} {x:FO l},eT bd ok hp l=some x->∀ {n:Nat} {ch:Ch},dH l x n=some ch->
 ∃ (s:CSh) (y:s.T),(n,s) ∈ l/\kl bd ok hp n s=some y/\ch=⟨s.ep,cv s y⟩
 | [],_,_,_,_,h=>by cases h
 |c::r,x,h,n,ch,hn=>by
  obtain ⟨h1,h2⟩:=aU h
  simp [dH] at hn
  cases hb:Nat.beq n c.1
  ·rw [hb] at hn
   obtain ⟨s,y,h3,h4⟩:=dL h2 hn
   grind
  grind [aX]
theorem sV:∀ {l:List (Nat×CSh)} {x:FO l} {n:Nat},(∃ s,(n,s) ∈ l)->∃ ch,dH l x n=some ch
 | [],_,_,h=>by grind
 |c::r,x,n,h=>by
  simp [dH]
  cases hb:Nat.beq n c.1
  ·obtain ⟨s,h⟩:=h
   rcases List.mem_cons.1 h with h|h
   ·grind [Nat.beq_refl]
   ·exact sV ⟨s,h⟩
  simp
theorem aue:∀ {bd:Bd} {n:Nat} {o:Option Nat},du bd n=some o->∃ p ∈ bd,p.1=n
 :=by intro t;induction t<;>grind [du,Nat.beq,aX]
def Ctx.named (R:Ctx) (F':Nat->Option Obj) (U':FN) (bd:Bd) (hp:Hp):Ctx:=⟨F',U',λn=>match du bd n with
 |some (some c)=>R.σ c
 |_=>none,hp⟩
section
variable {s:Shape} {R:Ctx} {st:St} {bd:Bd} {ok:Nat->Bool} {F':Nat->Option Obj} {U':FN} {x:FO s.chunks} (hok:s.KT st bd=true) (hx:eT bd ok st.hp s.chunks=some x) (hR:R.hp=st.hp)
include hok hx
theorem Si {n:Nat} {o:Option Nat} (h:du bd n=some o):∃ (cs:CSh) (y:cs.T),kl bd ok st.hp n cs=some y/\dH s.chunks x n=some ⟨0,cv cs y⟩:=by
 obtain ⟨p,hp,rfl⟩:=aue h
 unfold Shape.KT at hok
 simp only [av,fX,List.any_eq_true] at hok
 obtain ⟨c,hc,hcn⟩:=hok.1.2 p hp
 have:=aX hcn
 obtain ⟨ch,hch⟩:=sV (x:=x) (n:=p.1) ⟨c.2,by rw [<-this];exact hc⟩
 obtain ⟨cs,y,h1,h2,h3⟩:=dL hx hch
 refine ⟨cs,y,h2,?_⟩
 rw [hch,h3]
 have:cs.ep=0:=by
  cases cs<;>try rfl
  grind [kl,iS,Qf]
 rw [this]
theorem Qc {n c e:Nat} (h:Dp bd st.hp n c e=true):∃ b b',st.hp c=some ⟨e,b⟩/\dH s.chunks x n=some ⟨0,b'⟩/\b'.shape=b.shape/\(R.named F' U' bd (dH s.chunks x)).σ n=R.σ c:=by
 unfold Dp at h
 split at h
 ·rename_i c' hb
  rw [av] at h
  have:=aX h.1
  subst this
  have h2:=h.2
  split at h2
  ·rename_i ch hch
   have he:=aX h2
   obtain ⟨cs,y,h3,h4⟩:=Si hok hx hb
   simp [kl,hb,hch] at h3
   exact ⟨ch.body,_,by rw [hch,<-he],h4,wq h3,by grind [Ctx.named]⟩
  grind
 grind
theorem MU {n:Nat} {ad:Option Addr} (h:I4 bd n=true):(R.named F' U' bd (dH s.chunks x)).own n 0 (.slice ad 0 0):=by
 unfold I4 at h
 split at h
 ·rename_i hb
  obtain ⟨cs,y,h3,h4⟩:=Si hok hx hb
  simp [kl,hb] at h3
  cases cs<;>simp [Qf] at h3<;>try rfl
  case row t=>
   cases hz:Nat.blt 0 t.size
   ·grind
   ·rw [hz] at h3
    cases h3
    refine ⟨_,h4,(by simp),λ_=>⟨_,h4,(by simp),λ_=> ?_⟩⟩
    refine ⟨rfl,(by simp),ad,0,rfl,Nat.le_refl _,?_⟩
    grind
 grind
include hR
theorem ap9 {n c e:Nat} {v:Value} (h:Dp bd st.hp n c e=true) (hv:R.own c e v):(R.named F' U' bd (dH s.chunks x)).own n 0 v:=by
 obtain ⟨b,b',h1,h2,h3,h4⟩:=Qc (R:=R) hok hx h
 obtain ⟨h5,h6,ad,cap,h7,h8,h9⟩:=Ctx.cD (b:=b) (by grind) (Ctx.cN (by rw [hR];omega) hv)
 refine ⟨_,h2,(by simp),λ_=>⟨_,h2,(by simp),λ_=> ?_⟩⟩
 rw [h4]
 grind
theorem aaO {n c e i off:Nat} {v:Value} (h:Dp bd st.hp n c e=true) (hv:R.ptr c e i off v):(R.named F' U' bd (dH s.chunks x)).ptr n 0 i off v:=by
 obtain ⟨b,b',h1,h2,h3,h4⟩:=Qc (R:=R) hok hx h
 obtain ⟨ch,g1,g2,g3⟩:=hv
 rw [hR,h1] at g1
 cases g1
 obtain ⟨L,g4,g5⟩:=g3 rfl
 refine ⟨_,h2,(by simp),λ_=>⟨L,by rw [h4];omega,?_⟩⟩
 grind
theorem af4:∀ (ns:List Nat) (caps:List SV) (us:List Value),zm bd st.hp ns caps=true->SV.bx R caps us->SV.bx (R.named F' U' bd (dH s.chunks x)) (ns.map λn=>.ptr n 0 0 0) us
 | [],[],us,_,h=>h
 | [],_::_,_,h,_|n::ns,[],_,h,_=>by cases h
 |n::ns,y::r,us,h,hr=>by
  cases y<;>simp only [zm] at h<;>try grind
  case ptr c e i off=>
   simp only [av] at h
   obtain ⟨⟨⟨h1,h2⟩,h3⟩,h4⟩:=h
   have e1:=aX h2
   have e2:=aX h3
   obtain ⟨v,us',rfl,hv,hr⟩:=hr
   exact ⟨v,us',rfl,by grind [SV.rel,aaO],af4 ns r us' h4 hr⟩
theorem CT {w:World} (hm:cu R w) (hF:∀ b o,R.F b=some o->F' b=some o) (hok':∀ c ch L,ok c=true->R.hp c=some ch->R.σ c=some L->F' L.block=w.heap[L.block]?) {sh:Sh} {cs:List SV} {y:sh.T} {us:List Value} (h:sk bd ok st.hp sh cs=some y) (hr:SV.bx R cs us):SV.bx (R.named F' U' bd (dH s.chunks x)) (oo sh y) us:=by
 cases sh<;>simp only [sk] at h
 case val b t=>
  rw [<-hR] at h
  exact eS t y us (n0 hm hF hok' t cs y us h hr)
 case own n=>
  replace h:=gO h
  obtain ⟨z,rfl⟩:=fk h
  obtain ⟨v,rfl,hv⟩:=bW hr
  cases z<;>simp only [lB,Bool.false_eq_true] at h
  case own c e=>
   simp only [SV.rel] at hv
   exact aZ (by simp only [SV.rel];exact ⟨hv.1,ap9 hok hx hR h hv.2⟩)
  case emp=>
   simp only [SV.rel] at hv
   obtain ⟨ad,rfl⟩:=hv
   exact aZ (by simp only [SV.rel];exact ⟨rfl,MU hok hx h⟩)
 case mix a n b=>
  obtain ⟨h1,h2⟩:=aU h
  obtain ⟨h3,h4⟩:=aU h2
  have r1:=SV.cP hr a.size
  have r2:=SV.cQ hr a.size
  have r3:=SV.cP r2 1
  have r4:=SV.cQ r2 1
  have ho:=gO h3
  obtain ⟨z,hz⟩:=fk ho
  rw [hz] at ho r3
  obtain ⟨v,hv1,hv⟩:=bW r3
  rw [<-hR] at h1 h4
  have q1:SV.bx (R.named F' U' bd (dH s.chunks x)) (unpack a y.1) (us.take a.size):=eS a y.1 _ (n0 hm hF hok' a _ y.1 _ h1 r1)
  have q4:SV.bx (R.named F' U' bd (dH s.chunks x)) (unpack b y.2.2) ((us.drop a.size).drop 1):=eS b y.2.2 _ (n0 hm hF hok' b _ y.2.2 _ h4 r4)
  have q3:SV.bx (R.named F' U' bd (dH s.chunks x)) [.own n 0] ((us.drop a.size).take 1):=by
   rw [hv1]
   cases z<;>simp only [lB,Bool.false_eq_true] at ho
   case own c e=>
    grind [SV.rel,aZ,ap9]
   case emp=>
    simp only [SV.rel] at hv
    obtain ⟨ad,rfl⟩:=hv
    exact aZ (by simp only [SV.rel];exact ⟨rfl,MU hok hx ho⟩)
  have:=SV.bz q1 (SV.bz q3 q4)
  rw [List.take_append_drop,List.take_append_drop] at this
  exact this
 case ptr n i off=>
  replace h:=gO h
  obtain ⟨z,rfl⟩:=fk h
  obtain ⟨v,rfl,hv⟩:=bW hr
  cases z<;>simp only [lB,Bool.false_eq_true,av] at h
  case ptr c e i' off'=>
   obtain ⟨⟨h1,h2⟩,h3⟩:=h
   have e1:=aX h2
   have e2:=aX h3
   subst e1 e2
   simp only [SV.rel] at hv
   exact aZ (by simp only [SV.rel];exact ⟨hv.1,aaO hok hx hR h1 hv.2⟩)
 case fn f ns=>
  replace h:=gO h
  obtain ⟨z,rfl⟩:=fk h
  obtain ⟨v,rfl,hv⟩:=bW hr
  cases z<;>try (simp only [lB,Bool.false_eq_true] at h;done)
  case fn g first caps=>
   cases g with
   |func f'=>
    cases first with
    |nil=>
     simp only [lB,av] at h
     have e1:=aX h.1
     subst e1
     simp only [SV.rel] at hv
     obtain ⟨l1,l2,rfl,h3,h4⟩:=hv
     exact aZ (by simp only [SV.rel];exact ⟨l1,l2,rfl,h3,af4 hok hx hR ns _ l2 h.2 h4⟩)
    |cons a b=>simp [lB] at h
   |_=>simp [lB] at h
 case ife t=>
  unfold aD7 at h
  split at h
  ·rename_i t' z
   cases hb:Nat.beq t t'
   ·rw [hb] at h;cases h
   ·rw [hb] at h
    cases h
    rw [aX hb]
    obtain ⟨v,rfl,hv⟩:=bW hr
    exact aZ (adj hv)
  ·cases h
 case ifp t n=>
  replace h:=gO h
  obtain ⟨z,rfl⟩:=fk h
  obtain ⟨v,rfl,hv⟩:=bW hr
  cases z<;>try (simp only [lB,Bool.false_eq_true] at h;done)
  case iface t' q=>
   cases q<;>try (simp only [lB,Bool.false_eq_true] at h;done)
   case ptr c e i off=>
    simp only [lB,av] at h
    obtain ⟨h0,h1,h2,h3⟩:=h
    have e0:=aX h0
    have e1:=aX h2
    have e2:=aX h3
    subst e0 e1 e2
    simp only [SV.rel] at hv
    obtain ⟨y,rfl,hy⟩:=hv
    exact aZ (by simp only [SV.rel];exact ⟨y,rfl,hy.1,aaO hok hx hR h1 hy.2⟩)
 all_goals (
  replace h:=gO h
  obtain ⟨z,rfl⟩:=fk h
  obtain ⟨v,rfl,hv⟩:=bW hr
  cases z<;>simp only [lB,Bool.false_eq_true] at h
  simp only [SV.rel] at hv
  exact aZ (by simp only [SV.rel];exact hv))
theorem EN {w:World} (hm:cu R w) (hF:∀ b o,R.F b=some o->F' b=some o) (hok':∀ c ch L,ok c=true->R.hp c=some ch->R.σ c=some L->F' L.block=w.heap[L.block]?):∀ {l:List Sh} {cs:List SV} {y:ShT l} {us:List Value},li bd ok st.hp l cs=some y->SV.bx R cs us->SV.bx (R.named F' U' bd (dH s.chunks x)) (lE l y) us
 | [],[],_,_,_,hr=>hr
 | [],_::_,_,_,h,_=>by cases h
 |sh::r,cs,y,us,h,hr=>by
  obtain ⟨h1,h2⟩:=aU h
  have r1:=CT (U':=U') hok hx hR hm hF hok' h1 (SV.cP hr sh.size)
  have r2:=EN hm hF hok' h2 (SV.cQ hr sh.size)
  have:=SV.bz r1 r2
  rwa [List.take_append_drop] at this
theorem aaQ {w:World} (hm:cu R w) (hF:∀ b o,R.F b=some o->F' b=some o) (hok':∀ c ch L,ok c=true->R.hp c=some ch->R.σ c=some L->F' L.block=w.heap[L.block]?) {sh:Sh} {z:SV} {y:sh.T} {v:Value} (h:CS bd ok st.hp sh z=some y) (hr:SV.rel R z v):SV.rel (R.named F' U' bd (dH s.chunks x)) (sU sh y) v:=by
 unfold CS at h
 unfold sU
 cases ha:sh.agg<;>rw [ha] at h
 ·have h1:=CT (U':=U') hok hx hR hm hF hok' h (aZ hr)
  simp [rF]
  cases hc:oo sh y with
  |nil=>grind [SV.bx]
  |cons u l=>
   grind [SV.bx]
 ·cases z<;>simp [TV] at h<;>try rfl
  case agg l=>
   obtain ⟨vs,rfl,h1,h2⟩:=hr
   grind [AR,CT]
theorem kk {w:World} (hm:cu R w) (hF:∀ b o,R.F b=some o->F' b=some o) (hok':∀ c ch L,ok c=true->R.hp c=some ch->R.σ c=some L->F' L.block=w.heap[L.block]?) {tmps:List Value} (ht:SV.bx R st.tm tmps):∀ {l:List (Nat×Sh)} {y:SlT l} {tm:List SV},uN bd ok st.hp st.tm l=some y->
 SV.bx (R.named F' U' bd (dH s.chunks x)) tm tmps->SV.bx (R.named F' U' bd (dH s.chunks x)) (gP l y tm) tmps
 | [],_,_,_,h=>h
 |c::r,y,tm,h,htm=>by
  obtain ⟨h1,h2⟩:=aU h
  simp [gP]
  refine kk hm hF hok' ht h2 ?_
  by_cases hc:c.1<st.tm.length
  ·have hl:=SV.aJ ht
   have hc':c.1<tmps.length:=by omega
   have hv:=SV.mT ht c.1 hc hc'
   grind [ui,SV.Am,aaQ,List.set_getElem_self]
  ·have:tm.length=st.tm.length:=by rw [<-SV.aJ htm,<-SV.aJ ht]
   grind [List.set_eq_of_length_le]
end
end Sx
end
section
namespace Sx
open Go
theorem EM {bd:Bd} {ok:Nat->Bool} {hp:Hp} {s:CSh} {b:Chunk} {y:s.T} (h:iS bd ok hp s b=some y):(cv s y).mut=b.mut:=by
 cases s<;>cases b<;>simp [iS] at h<;>first|rfl|rfl
theorem oF:∀ {bd:Bd} {n:Nat} {o:Option Nat},du bd n=some o->(n,o) ∈ bd
 :=by intro t;induction t<;>grind [du,Nat.beq,List.mem_cons_of_mem,aX]
theorem Nz {l:Bool} {bd:Bd} {n c:Nat} (h:du bd n=some (some c)):tj l bd c=false:=by
 have hm:=oF h
 unfold tj
 have:bd.any (aD3 c)=true:=List.any_eq_true.2 ⟨_,hm,by simp [aD3]⟩
 grind
open Classical in
noncomputable def Ctx.frozen (R:Ctx) (w:World) (ok:Nat->Bool):Nat->Option Obj:=λb=>
 if ∃ c ch L,ok c=true/\R.hp c=some ch/\R.σ c=some L/\L.block=b then w.heap[b]? else R.F b
theorem Rh {R:Ctx} {w:World} (hm:cu R w) (ok:Nat->Bool):∀ b o,R.F b=some o->R.frozen w ok b=some o:=λb o h=>by
 unfold Ctx.frozen
 split
 ·exact hm.F b o h
 omega
theorem acG {R:Ctx} {w:World} (hm:cu R w) (ok:Nat->Bool):∀ b o,R.frozen w ok b=some o->w.heap[b]? =some o:=λb o h=>by
 unfold Ctx.frozen at h
 split at h
 ·omega
 ·exact hm.F b o h
theorem Ws {R:Ctx} (w:World) (ok:Nat->Bool):∀ c ch L,ok c=true->R.hp c=some ch->R.σ c=some L->R.frozen w ok L.block=w.heap[L.block]? :=λc ch L h1 h2 h3=>by
 unfold Ctx.frozen
 rw [if_pos (by grind)]
theorem dr {R:Ctx} {w:World} (hm:cu R w) {c:Nat} {ch:Ch} {L:Loc} (hc:R.hp c=some ch) (hσ:R.σ c=some L):
 (ch.body.mut=true->R.F L.block=none/\R.U L.block=none)/\(ch.body.mut=false->∃ o,R.F L.block=some o):=by
 have h:=hm.ch c ch hc
 obtain ⟨ep,body⟩:=ch
 cases body with
 |row t xs=>
  simp [eG] at h
  exact ⟨(by grind),λe=>(by cases e)⟩
 |frz t xs=>
  simp [eG] at h
  exact ⟨λe=>(by cases e),(by grind)⟩
 |cells vs=>
  obtain ⟨L',h0,h1,h2,_⟩:=h
  rw [hσ] at h0
  cases h0
  exact ⟨(by grind),λe=>(by cases e)⟩
theorem ayA {R:Ctx} {w:World} (hm:cu R w) (ok:Nat->Bool):∀ b o,R.frozen w ok b=some o->R.U b=none:=λb o h=>by
 unfold Ctx.frozen at h
 split at h
 ·rename_i hq
  obtain ⟨c,ch,L,h1,h2,h3,rfl⟩:=hq
  obtain ⟨k1,k2⟩:=dr hm h2 h3
  cases hmu:ch.body.mut
  ·obtain ⟨o',ho⟩:=k2 hmu
   exact hm.FU _ o' ho
  grind
 ·exact hm.FU b o h
theorem amd {R:Ctx} {w:World} (hm:cu R w) {ok:Nat->Bool} {c:Nat} {ch:Ch} {L:Loc} (hc:R.hp c=some ch) (hσ:R.σ c=some L) (hmu:ch.body.mut=true) (hn:ok c=false):R.frozen w ok L.block=none:=by
 unfold Ctx.frozen
 split
 ·rename_i hq
  obtain ⟨c',ch',L',h1,h2,h3,h4⟩:=hq
  cases hm':ch'.body.mut
  ·obtain ⟨o',ho⟩:=(dr hm h2 h3).2 hm'
   grind [dr]
  ·have:=hm.apart c' c ch' ch L' L h2 hc hm' hmu h3 hσ h4
   grind
 grind [dr]
section
variable {s:Shape} {R:Ctx} {st:St} {bd:Bd} {x:FO s.chunks} (hok:s.KT st bd=true) (hx:eT bd (tj s.lists bd) st.hp s.chunks=some x) (hR:R.hp=st.hp)
 {w:World} (hm:cu R w) {F':Nat->Option Obj} {U':FN} (hF:∀ b o,R.F b=some o->F' b=some o)
 (hok':∀ c ch L,tj s.lists bd c=true->R.hp c=some ch->R.σ c=some L->F' L.block=w.heap[L.block]?)
 (hmut:∀ n c ch L,du bd n=some (some c)->R.hp c=some ch->ch.body.mut=true->R.σ c=some L->F' L.block=none/\U' L.block=none)
include hok hx hR hm hF hok' hmut
theorem atn {n c:Nat} {cs:CSh} {y:cs.T} {ch:Ch} (hb:du bd n=some (some c)) (hc:R.hp c=some ch) (h:iS bd (tj s.lists bd) st.hp cs ch.body=some y):
 eG (R.named F' U' bd (dH s.chunks x)) w n ⟨cs.ep,cv cs y⟩:=by
 have h0:=hm.ch c ch hc
 have hσ:(R.named F' U' bd (dH s.chunks x)).σ n=R.σ c:=by grind [Ctx.named]
 obtain ⟨ep,body⟩:=ch
 cases cs<;>cases body<;>simp at h<;>try (cases h)
 case row.row t t' xs=>
  obtain ⟨e,rfl⟩:=bf h
  subst e
  simp only [eG] at h0⊢
  rw [hσ]
  refine ⟨h0.1,h0.2.1,?_⟩
  cases hL:R.σ c with
  |none=>grind
  |some L=>
   have:=h0.2.2
   rw [hL] at this
   obtain ⟨c1,c2,arr,E,c3,c4,c5,c6⟩:=this
   exact ⟨(hmut n c _ L hb hc rfl hL).1,(hmut n c _ L hb hc rfl hL).2,arr,E,c3,c4,c5,λi hi=>bO hF _ _ _ (c6 i hi)⟩
 case frz.frz t t' xs=>
  obtain ⟨e,rfl⟩:=bf h
  subst e
  simp only [eG] at h0⊢
  rw [hσ]
  refine ⟨h0.1,h0.2.1,?_⟩
  cases hL:R.σ c with
  |none=>grind
  |some L=>
   have:=h0.2.2
   rw [hL] at this
   obtain ⟨arr,E,fz,c3,c4,c5,c6⟩:=this
   exact ⟨arr,E,fz,hF _ _ c3,c4,c5,λi hi=>bO hF _ _ _ (c6 i hi)⟩
 case cells.cells l vs=>
  obtain ⟨L,h1,h2,h3,arr,E,h4,h5,h6,h7,h8⟩:=h0
  exact ⟨L,by grind,(hmut n c _ L hb hc rfl h1).1,(hmut n c _ L hb hc rfl h1).2,arr,E,h4,h5,by rw [mc h];exact h6,EN hok hx hR hm hF hok' h h7,h8⟩
theorem F7 (Rc:∀ b o,F' b=some o->w.heap[b]? =some o) (heapU:∀ b o,U' b=some o->w.heap[b]? =some o) (hFU:∀ b o,F' b=some o->U' b=none) (henv:Mi U'.env w):cu (R.named F' U' bd (dH s.chunks x)) w:=by
 refine ⟨Rc,heapU,λn ch hn=> ?_,λn n' ch ch' L L' h1 h2 m1 m2 s1 s2 hbl=> ?_,hFU,henv⟩
 ·obtain ⟨cs,y,hmem,hp,rfl⟩:=dL hx (hn:dH s.chunks x n=some ch)
  unfold kl at hp
  split at hp
  ·grind [atn]
  ·rename_i hb
   cases cs<;>simp only [Qf] at hp<;>try (cases hp;done)
   case row t=>
    cases hz:Nat.blt 0 t.size
    ·rw [hz] at hp;cases hp
    ·rw [hz] at hp
     cases hp
     simp_all [dH,Ctx.named,eG,cv,db,trivial]
  ·rename_i hb
   cases cs<;>simp only [JB] at hp<;>try (cases hp;done)
   have hσ:(R.named F' U' bd (dH s.chunks x)).σ n=none:=by simp only [Ctx.named,hb]
   simp only [eG,cv]
   rw [hσ]
   exact ⟨by decide,by simp,trivial⟩
 ·have key:∀ (n:Nat) (ch:Ch) (L:Loc),(R.named F' U' bd (dH s.chunks x)).hp n=some ch->ch.body.mut=true->(R.named F' U' bd (dH s.chunks x)).σ n=some L->
   ∃ c ch₀ cs,(n,cs) ∈ s.chunks/\du bd n=some (some c)/\R.hp c=some ch₀/\ch₀.body.mut=true/\R.σ c=some L:=λn ch L h m hs=>by
   obtain ⟨cs,y,hmem,hp,rfl⟩:=dL hx (h:dH s.chunks x n=some ch)
   grind [kl,Ctx.named,EM]
  obtain ⟨c,c₀,cs,a1,a2,a3,a4,a5⟩:=key n ch L h1 m1 s1
  obtain ⟨c',c₀',cs',b1,b2,b3,b4,b5⟩:=key n' ch' L' h2 m2 s2
  have hcc:=hm.apart c c' c₀ c₀' L L' a3 b3 a4 b4 a5 b5 hbl
  subst hcc
  unfold Shape.KT at hok
  simp only [av,fX] at hok
  have h3:=hok.1.1.2 _ a1 _ b1
  simp_all
end
def Small (R:Ctx) (k:Nat):Prop:=∀ c ch,R.hp c=some ch->c<k/\ch.ep=0
theorem Shape.aHm {s:Shape} {R₀ R:Ctx} {st:St} {a:Act} {w:World} {x:s.T} (h0:Small R₀ s.fixed) (hx:R₀.Ext R) (h:iF R st a w) (hp:s.prj st=some x):
 ∃ R',R₀.Ext R'/\iF R' (s.inj x) a w:=by
 unfold Shape.prj at hp
 dsimp only at hp
 cases hb:s.KT st (s.bd st)&&Nat.beq st.tm.length s.n
 ·rw [hb] at hp;cases hp
 ·rw [hb] at hp
  rw [av] at hb
  obtain ⟨h1,h2⟩:=aU hp
  have hlen:=aX hb.2
  refine ⟨R.named (R.frozen w (tj s.lists (s.bd st))) R.U (s.bd st) (dH s.chunks x.2),⟨λb o h'=>Rh h.mem _ b o (hx.F b o h'),hx.U,λc ch hc=> ?_⟩,rfl,F7 hb.1 h2 h.hp h.mem (Rh h.mem _) (Ws w _) (λn c ch L k1 k2 k3 k4=>⟨amd h.mem k2 k4 k3 (Nz k1),((dr h.mem k2 k4).1 k3).2⟩) (acG h.mem _) h.mem.U (ayA h.mem _) h.mem.env,?_,h.defers⟩
  ·obtain ⟨hlt,hep⟩:=h0 c ch hc
   have hok:=hb.1
   unfold Shape.KT at hok
   simp at hok
   have h3:=hok.2 c (by simpa using hlt)
   obtain ⟨ch1,g1,g2,g3⟩:=hx.ch c ch hc
   split at h3
   ·rename_i c' hbd
    have h4:=(av _ _▸h3:_/\_)
    have:=aX h4.1
    subst this
    have hnow:Dp (s.bd st) st.hp c' c' 0=true:=by
     grind [Dp]
    obtain ⟨b,b',k1,k2,k3,k4⟩:=Qc (R:=R) hb.1 h2 hnow
    rw [h.hp,k1] at g1
    cases g1
    exact ⟨_,k2,g2,λhe=>⟨by grind,k4.trans (g3 he).2⟩⟩
   ·cases h3
   ·rename_i hbd
    obtain ⟨q,hq,hq'⟩:=List.any_eq_true.1 h3
    rw [av] at hq'
    have e1:=aX hq'.1
    obtain ⟨ch2,hch2⟩:=sV (x:=x.2) (n:=c) ⟨q.2,by rw [<-e1];exact hq⟩
    obtain ⟨cs,y,k1,k2,k3⟩:=dL h2 hch2
    have hg:cs=.gone:=by
     grind [kl,JB]
    subst hg
    refine ⟨ch2,hch2,?_,λhe=> ?_⟩
    ·grind
    ·rw [k3,hep] at he;cases he
  ·refine kk hb.1 h2 h.hp h.mem (Rh h.mem _) (Ws w _) h.tm h1 (SV.py ?_ λi hi hi'=> ?_)
   ·rw [nI,<-hlen]
    exact SV.aJ h.tm
   ·simp [SV.rel]
end Sx
end
section
namespace Sx
open Go
def asN (id:Nat):SE->SE
 |.exit j=>cond (Nat.beq j id) .normal (.exit j)
 |e=>e
theorem Shape.xM {s:Shape} {R₀ R:Ctx} {st:St} {a:Act} {w:World} {k:s.T->Prop} (h0:Small R₀ s.fixed) (hx:R₀.Ext R) (h:iF R st a w) (hp:s.on st k):
 ∃ x R',k x/\R₀.Ext R'/\iF R' (s.inj x) a w:=by
 unfold Shape.on at hp
 split at hp
 ·rename_i x hq
  obtain ⟨R',h1,h2⟩:=Shape.aHm h0 hx h hq
  exact ⟨x,R',hp,h1,h2⟩
 ·exact hp.elim
section
variable {P:Program} {te:TE} {Φ:Env} (hte:kH P te) (hΦ:nW P Φ) (hany:FP P te Φ)
include hte hΦ hany
end
def ahY:List (Nat×Code)->Nat->Code
 | [],_=>.skip
 |(i,c)::r,id=>cond (Nat.beq i id) c (ahY r id)
def ahX (c:Code) (id:Nat):Code:=ahY (blocks c) id
def IM (c:Code) (id:Nat):Code:=match ahX c id with
 |.loop b=>b
 |c=>c
def VE (c:Code) (id:Nat):Bool:=match ahX c id with
 |.loop _=>true
 |_=>false
theorem abH {c:Code} {id:Nat} (h:VE c id=true):ahX c id=.loop (IM c id):=by
 unfold VE at h
 unfold IM
 split at h
 ·rename_i b hb
  rw [hb]
 ·cases h
theorem N8:∀ {l:List (Nat×Code)},distinct (l.map (·.1))=true->∀ p ∈ l,ahY l p.1=p.2
 | [],_,p,hp=>by cases hp
 |q::r,h,p,hp=>by
  simp only [List.map_cons,distinct,av,Bool.not_eq_true'] at h
  simp only [ahY]
  rcases List.mem_cons.1 hp with he|he
  ·subst he
   rw [Nat.beq_refl];rfl
  ·have:Nat.beq q.1 p.1=false:=by
    cases hq:Nat.beq q.1 p.1
    ·rfl
    ·have:=h.1
     rw [List.any_eq_false] at this
     exact absurd hq (this p.1 (List.mem_map.2 ⟨p,he,rfl⟩))
   rw [this]
   exact N8 h.2 p he
def QE (id:Nat) (l:St->(SE->St->Prop)->Prop) (Λ:Lam):Lam:=λj=>cond (Nat.beq j id) (some l) (Λ j)
def fC:Lam:=λ_=>none
theorem AX {P:Program} {R₀:Ctx} {c:Code}:rH P R₀ fC c:=λ_ _ _ h=>by cases h
theorem Nf {P:Program} {R₀:Ctx} {c:Code} (hd:distinct ((blocks c).map (·.1))=true) {id:Nat} {l:St->(SE->St->Prop)->Prop} {Λ:Lam} (hl:VE c id=true) (h:zI P R₀ (.block id (.loop (IM c id))) l) (hΛ:rH P R₀ Λ c):
 rH P R₀ (QE id l Λ) c:=λp hp l' hl'=>by
 unfold QE at hl'
 cases hb:Nat.beq p.1 id
 ·rw [hb] at hl';exact hΛ p hp l' hl'
 ·rw [hb] at hl'
  cases hl'
  have e:=aX hb
  have:=N8 hd p hp
  rw [<-this,e]
  have h2:=abH hl
  unfold ahX at h2
  rw [h2]
  exact h
end Sx
end
section
namespace Sx
open Go
abbrev Nm:=Nat->Nat×Nat
def yn (ν:Nm):(s:Sh)->s.T->List SV
 |.val _ t,x=>unpack t x
 |.own n,_=> [.own (ν n).1 (ν n).2]
 |.ptr n i off,_=> [.ptr (ν n).1 (ν n).2 i off]
 |.fn f ns,_=> [.fn (.func f) [] (ns.map λn=>.ptr (ν n).1 (ν n).2 0 0)]
 |.ifp t n,_=> [.iface t (.ptr (ν n).1 (ν n).2 0 0)]
 |.ife t,x=> [.iface t (.agg [.int x])]
 |.mix a n b,x=>unpack a x.1++([.own (ν n).1 (ν n).2]++unpack b x.2.2)
 |.rI,_=> [.rI]
 |.fh,_=> [.fh]
 |.undef,_=> [.undef]
def QU (ν:Nm) (s:Sh) (x:s.T):SV:=rF s.agg (yn ν s x)
def oq (ν:Nm):(l:List Sh)->ShT l->List SV
 | [],_=> []
 |s::r,x=>yn ν s x.1++oq ν r x.2
def gv (ν:Nm):(s:CSh)->s.T->Chunk
 |.row t,xs=>.row t xs
 |.frz t,xs=>.frz t xs
 |.cells l,x=>.cells (oq ν l x)
 |.gone,_=>.row .u8 []
structure aH where
 rs:List Sh
 chunks:List (Nat×CSh)
 pan:Bool
def indexed:Nat->List Sh->List (Nat×Sh)
 |_,[]=> []
 |i,s::r=>(i,s)::indexed (i+1) r
def aH.shape (o:aH) (fixed:Nat):Shape:=⟨o.rs.length,indexed 0 o.rs,o.chunks,fixed,true⟩
def apj (n:Nat) (v:SV):List SV:=cond (Nat.beq n 1) [v] (match v with
 |.tup l=>l
 |_=>List.replicate (n+1) .fY)
structure af where
 as:List Sh
 chunks:List (Nat×CSh)
 bF:Bool
 fixed:Nat
 mod:Bool
def af.inp (S:af):Shape:=⟨S.as.length,indexed 0 S.as,S.chunks,0,S.bF⟩
abbrev af.T (S:af):Type:=S.inp.T
abbrev af.Y (S:af):Type:=Sigma λo:aH=>(o.shape S.fixed).T
def Zj (hp:Hp) (c:Nat):Nat:=match hp c with
 |some ch=>ch.ep
 |none=>0
def nameOf (bd:Bd) (n:Nat):Nat:=match du bd n with
 |some (some c)=>c
 |_=>0
def af.nm (S:af) (bd:Bd) (hp:Hp) (base:Nat):Nm:=λn=>cond (Nat.blt n S.fixed) (nameOf bd n,Zj hp (nameOf bd n)) (base+(n-S.fixed),0)
def kb (ν:Nm):(l:List (Nat×CSh))->FO l->List (Nat×Ch)
 | [],_=> []
 |c::r,x=>((ν c.1).1,⟨(ν c.1).2,gv ν c.2 x.1⟩)::kb ν r x.2
def dE (bd:Bd) (hp:Hp) (fixed:Nat):List (Nat×CSh)->List (Nat×Ch)
 | []=> []
 |c::r=>cond (Nat.blt c.1 fixed) (dE bd hp fixed r) (match du bd c.1 with
  |some (some o)=>(o,⟨Zj hp o+1,.row .u8 []⟩)::dE bd hp fixed r
  |_=>dE bd hp fixed r)
def Ty.cp:Ty->Bool
 |.list _=>true
 |.prod a b=>a.cp||b.cp
 |.arr _ t=>t.cp
 |_=>false
def Sh.cp:Sh->Bool
 |.val _ t=>t.cp
 |.mix a _ b=>a.cp||b.cp
 |_=>false
def CSh.cp:CSh->Bool
 |.row t=>t.cp
 |.frz t=>t.cp
 |.cells l=>l.any Sh.cp
 |.gone=>false
def CSh.VF:CSh->Bool
 |.frz _=>true
 |_=>false
def af.nV (S:af) (bd:Bd) (hp:Hp) (base:Nat) (o:aH):Bool:=
 (!S.bF|| !(o.rs.any Sh.cp||o.chunks.any λc=>c.2.cp||(c.2.VF&& !Nat.blt c.1 S.fixed)))&&
 ((List.range S.fixed).all (λk=>(match du bd k with
   |some (some _)=>true
   |_=>false)&&o.chunks.any λc=>Nat.beq c.1 k)&&
 ((o.chunks.all λc=>S.chunks.all λc'=> !Nat.beq c.1 c'.1|| !Nat.blt c.1 S.fixed||(c.2.VF==c'.2.VF))&&
 o.chunks.all λc=> !c.2.iz&&(Nat.blt c.1 S.fixed||(Nat.blt (c.1-S.fixed) 64&&(hp (base+(c.1-S.fixed))).isNone))))
def af.emit (S:af) (bd:Bd) (d:Nat) (hp:Hp) (o:aH) (y:(o.shape S.fixed).T):OT Out:=
 let base:=fresh hp d
 let ν:=S.nm bd hp base
 let v:=oneOf ((indexedN ν o.rs) y.1)
 let u:=dE bd hp S.fixed S.chunks++kb ν o.chunks y.2
 .guard (S.nV bd hp base o) (.ok (cond o.pan (.pan v u) (.ret ⟨v,u⟩)))
where
 indexedN (ν:Nm) (rs:List Sh):SlT (indexed 0 rs)->List SV:=go ν 0 rs
 go (ν:Nm):(i:Nat)->(rs:List Sh)->SlT (indexed i rs)->List SV
  |_,[],_=> []
  |i,s::r,y=>QU ν s y.1::go ν (i+1) r y.2
def af.aw (S:af) (pre:S.T->Bool) (F:S.T->OT S.Y):bi:=⟨S.mod,λd args hp=>
 match S.inp.prj ⟨args,hp⟩ with
 |none=>.fail
 |some x=>.guard (pre x) ((F x).bind λoy=>S.emit (S.inp.bd ⟨args,hp⟩) d hp oy.1 oy.2)⟩
def aH.is {fixed:Nat} (o:aH) (y:(o.shape fixed).T) (pan:Bool) (v:SV) (hp:Hp):Prop:=
 o.pan=pan/\(o.shape fixed).prj ⟨apj o.rs.length v,hp⟩=some y
end Sx
end
section
namespace Sx
open Go
def Ctx.BI (R:Ctx) (bd:Bd) (b:Nat):Prop:=∃ n c ch L,du bd n=some (some c)/\R.hp c=some ch/\ch.body.mut=true/\R.σ c=some L/\L.block=b
open Classical in
noncomputable def Ctx.A4 (R:Ctx) (bd:Bd) (bF:Bool) (w:World):Nat->Option Obj:=λb=>
 if R.BI bd b then none else if bF=true then w.heap[b]? else R.F b
open Classical in
noncomputable def Ctx.Gg (R:Ctx) (bd:Bd) (bF:Bool) (w:World):FN:=⟨λb=>
 if R.BI bd b\/bF=true\/(∃ o,R.F b=some o) then none else w.heap[b]?,R.U.env,[]⟩
section
variable {R:Ctx} {w:World} (hm:cu R w) {bd:Bd} {bF:Bool}
include hm
theorem Ec {b:Nat} (h:R.BI bd b):R.F b=none/\R.U b=none:=by
 obtain ⟨n,c,ch,L,h1,h2,h3,h4,rfl⟩:=h
 exact (dr hm h2 h4).1 h3
theorem Jf:∀ b o,R.F b=some o->R.A4 bd bF w b=some o:=λb o h=>by
 unfold Ctx.A4
 split
 ·rename_i hb
  rw [(Ec hm hb).1] at h
  cases h
 ·split
  ·exact hm.F b o h
  ·exact h
theorem Je:∀ b o,R.A4 bd bF w b=some o->w.heap[b]? =some o:=λb o h=>by
 unfold Ctx.A4 at h
 split at h
 ·cases h
 ·split at h
  ·exact h
  ·exact hm.F b o h
theorem Du:∀ c ch L,tj bF bd c=true->R.hp c=some ch->R.σ c=some L->R.A4 bd bF w L.block=w.heap[L.block]? :=λc ch L h1 h2 h3=>by
 have hb:bF=true:=by
  unfold tj at h1
  rw [av] at h1
  exact h1.1
 unfold Ctx.A4
 split
 ·rename_i hq
  obtain ⟨n,c',ch',L',k1,k2,k3,k4,k5⟩:=hq
  cases hmu:ch.body.mut
  ·obtain ⟨o,ho⟩:=(dr hm h2 h3).2 hmu
   rw [<-k5,((dr hm k2 k4).1 k3).1] at ho
   cases ho
  ·have:=hm.apart c' c ch' ch L' L k2 h2 k3 hmu k4 h3 k5
   rw [this] at k1
   rw [Nz k1] at h1
   cases h1
 ·first|rfl|rw [if_pos hb]
omit hm in
theorem Jd:∀ b o,R.Gg bd bF w b=some o->w.heap[b]? =some o:=λb o h=>by
 unfold Ctx.Gg at h
 dsimp only at h
 split at h
 ·cases h
 ·exact h
omit hm in
theorem arl:∀ b o,R.A4 bd bF w b=some o->R.Gg bd bF w b=none:=λb o h=>by
 unfold Ctx.Gg
 dsimp only
 split
 ·rfl
 ·rename_i hq
  unfold Ctx.A4 at h
  rw [if_neg (λhb=>hq (.inl hb)),if_neg (λhb=>hq (.inr (.inl hb)))] at h
  exact absurd (.inr (.inr ⟨o,h⟩)) hq
omit hm in
theorem acd:∀ n c ch L,du bd n=some (some c)->R.hp c=some ch->ch.body.mut=true->R.σ c=some L->R.A4 bd bF w L.block=none/\R.Gg bd bF w L.block=none:=λn c ch L h1 h2 h3 h4=>by
 have hb:R.BI bd L.block:=⟨n,c,ch,L,h1,h2,h3,h4,rfl⟩
 exact ⟨by unfold Ctx.A4;rw [if_pos hb],by unfold Ctx.Gg;dsimp only;rw [if_pos (.inl hb)]⟩
theorem stays {F₂:Nat->Option Obj} {U₂:FN} {w':World} (hF:∀ b o,R.A4 bd bF w b=some o->F₂ b=some o) (hU:U₂=R.Gg bd bF w) (h1:∀ b o,F₂ b=some o->w'.heap[b]? =some o) (h2:∀ b o,U₂ b=some o->w'.heap[b]? =some o):
 ∀ b,b<w.heap.size->¬R.BI bd b->w'.heap[b]? =w.heap[b]? :=λb hb hn=>by
 have hs:w.heap[b]? =some w.heap[b]:=by simp [hb]
 by_cases hbo:bF=true
 ·have:R.A4 bd bF w b=some w.heap[b]:=by
   unfold Ctx.A4
   rw [if_neg hn,if_pos hbo,hs]
  rw [h1 _ _ (hF _ _ this),hs]
 ·by_cases hRF:∃ o,R.F b=some o
  ·obtain ⟨o,ho⟩:=hRF
   have:=hm.F b o ho
   rw [h1 _ _ (hF _ _ (Jf hm b o ho)),this]
  ·have:R.Gg bd bF w b=some w.heap[b]:=by
    unfold Ctx.Gg
    dsimp only
    rw [if_neg (by rintro (h|h|h);exact hn h;exact hbo h;exact hRF h),hs]
   rw [<-hU] at this
   rw [h2 _ _ this,hs]
end
end Sx
end
section
namespace Sx
open Go
structure Su (N R:Ctx) (ν:Nm) (lists:Bool):Prop where
 hp:∀ n ch,N.hp n=some ch->ch.ep=0/\∃ ch',R.hp (ν n).1=some ch'/\ch'.ep=(ν n).2/\ch'.body.shape=ch.body.shape/\R.σ (ν n).1=N.σ n
 F:lists=true->∀ b o,N.F b=some o->R.F b=some o
theorem vZ {F F':Nat->Option Obj}:∀ (t:Ty) (_:t.cp=false) (x:t.T) (cs:List Value),Rep F t x cs->Rep F' t x cs
 |.bool,_,_,_,h=>h
 |.u64,_,_,_,h=>h
 |.u8,_,_,_,h=>h
 |.int,_,_,_,h=>h
 |.str,_,_,_,h=>h
 |.elem,_,_,_,h=>h
 |.prod a b,hp,x,cs,h=>by
  simp only [Ty.cp,Bool.or_eq_false_iff] at hp
  exact ⟨h.1,vZ a hp.1 _ _ h.2.1,vZ b hp.2 _ _ h.2.2⟩
 |.arr n t,hp,x,cs,h=>⟨h.1,h.2.1,λi hi=>vZ t hp _ _ (h.2.2 i hi)⟩
def SV.still:SV->Bool
 |.bool _|.u64 _|.u8 _|.int _|.str _|.lst .. =>true
 |_=>false
theorem TP {R R':Ctx} (hF:∀ b o,R.F b=some o->R'.F b=some o):∀ {x:SV} {v:Value},x.still=true->SV.rel R x v->SV.rel R' x v:=by
 intro x v hf h
 cases x<;>first|(cases hf;done)|(simp only [SV.rel] at h⊢;first|exact h|exact bO hF _ _ _ h)
theorem Mv {R R':Ctx} (hF:∀ b o,R.F b=some o->R'.F b=some o):∀ {l:List SV} {vs:List Value},l.all SV.still=true->SV.bx R l vs->SV.bx R' l vs
 | [],vs,_,h=>by simpa only [SV.bx] using h
 |x::l,vs,hf,h=>by
  simp only [ax,av] at hf
  simp only [SV.bx] at h⊢
  obtain ⟨v,r,h1,h2,h3⟩:=h
  exact ⟨v,r,h1,TP hF hf.1 h2,Mv hF hf.2 h3⟩
theorem kc:∀ (t:Ty) (x:t.T),(unpack t x).all SV.still=true
 |.bool,_=>rfl
 |.u64,_=>rfl
 |.u8,_=>rfl
 |.int,_=>rfl
 |.str,_=>rfl
 |.elem,_=>rfl
 |.prod a b,x=>by simp only [unpack,List.all_append,kc a,kc b,Bool.and_self]
 |.arr n t,x=>by
  simp only [unpack,List.all_flatMap,fX]
  intro i _
  simpa [fX] using kc t _
 |.list t,_=>rfl
theorem gj:∀ {t:Ty},t.cp=false->t.plain=true
 |.bool,_=>rfl
 |.u64,_=>rfl
 |.u8,_=>rfl
 |.int,_=>rfl
 |.str,_=>rfl
 |.elem,_=>rfl
 |.prod a b,h=>by
  simp only [Ty.cp,Bool.or_eq_false_iff] at h
  simp only [Ty.plain,gj h.1,gj h.2,Bool.and_self]
 |.arr n t,h=>gj (t:=t) h
section
variable {N R:Ctx} {ν:Nm} {lists:Bool} (hr:Su N R ν lists)
include hr
theorem H7 {n:Nat} {v:Value} (h:N.own n 0 v):R.own (ν n).1 (ν n).2 v:=by
 obtain ⟨ch,hc,_,h⟩:=h
 obtain ⟨he,ch',k1,k2,k3,k4⟩:=hr.hp n ch hc
 obtain ⟨ch2,hc2,_,h2⟩:=h he.symm
 rw [hc] at hc2
 cases hc2
 obtain ⟨h5,h6,ad,cap,h7,h8,h9⟩:=h2 he.symm
 refine ⟨ch',k1,by omega,λ_=>⟨ch',k1,by omega,λ_=> ?_⟩⟩
 rw [k4,k3]
 exact ⟨h5,h6,ad,cap,h7,h8,h9⟩
theorem xA {n i off:Nat} {v:Value} (h:N.ptr n 0 i off v):R.ptr (ν n).1 (ν n).2 i off v:=by
 obtain ⟨ch,hc,_,h⟩:=h
 obtain ⟨he,ch',k1,k2,k3,k4⟩:=hr.hp n ch hc
 obtain ⟨L,h1,h2⟩:=h he.symm
 exact ⟨ch',k1,by omega,λ_=>⟨L,by rw [k4];exact h1,by rw [k3];exact h2⟩⟩
theorem EK:∀ (ns:List Nat) (us:List Value),SV.bx N (ns.map λn=>.ptr n 0 0 0) us->SV.bx R (ns.map λn=>.ptr (ν n).1 (ν n).2 0 0) us
 | [],us,h=>h
 |n::ns,us,h=>by
  simp only [List.map_cons,SV.bx,SV.rel] at h⊢
  obtain ⟨v,us',rfl,h1,h2⟩:=h
  exact ⟨v,us',rfl,⟨h1.1,xA hr h1.2⟩,EK ns us' h2⟩
theorem nM {t:Ty} (hl:lists=true\/t.cp=false) {x:t.T} {us:List Value} (h:SV.bx N (unpack t x) us):SV.bx R (unpack t x) us:=by
 rcases hl with hl|hl
 ·exact Mv (hr.F hl) (kc t x) h
 ·exact WJ (lU t (gj hl) x) h
theorem xL {s:Sh} (hl:lists=true\/s.cp=false) {y:s.T} {us:List Value} (h:SV.bx N (oo s y) us):SV.bx R (yn ν s y) us:=by
 cases s<;>simp only [oo,yn] at h⊢
 case val b t=>exact nM hr hl h
 case mix a n b=>
  have ha:lists=true\/a.cp=false:=hl.imp_right λe=>by simp only [Sh.cp,Bool.or_eq_false_iff] at e;exact e.1
  have hb:lists=true\/b.cp=false:=hl.imp_right λe=>by simp only [Sh.cp,Bool.or_eq_false_iff] at e;exact e.2
  have t1:=SV.cP h (unpack a y.1).length
  have t2:=SV.cQ h (unpack a y.1).length
  rw [List.take_left] at t1
  rw [List.drop_left] at t2
  have t3:=SV.cP t2 1
  have t4:=SV.cQ t2 1
  obtain ⟨v,hv1,hv⟩:=bW (show SV.bx N [.own n 0] ((us.drop (unpack a y.1).length).take 1) from t3)
  simp only [SV.rel] at hv
  have q3:SV.bx R [.own (ν n).1 (ν n).2] ((us.drop (unpack a y.1).length).take 1):=by
   rw [hv1]
   exact aZ (by simp only [SV.rel];exact ⟨hv.1,H7 hr hv.2⟩)
  have:=SV.bz (nM hr ha t1) (SV.bz q3 (nM hr hb (show SV.bx N (unpack b y.2.2) _ from t4)))
  rw [List.take_append_drop,List.take_append_drop] at this
  exact this
 case own n=>
  obtain ⟨v,rfl,hv⟩:=bW h
  simp only [SV.rel] at hv
  exact aZ (by simp only [SV.rel];exact ⟨hv.1,H7 hr hv.2⟩)
 case ptr n i off=>
  obtain ⟨v,rfl,hv⟩:=bW h
  simp only [SV.rel] at hv
  exact aZ (by simp only [SV.rel];exact ⟨hv.1,xA hr hv.2⟩)
 case fn f ns=>
  obtain ⟨v,rfl,hv⟩:=bW h
  simp only [SV.rel] at hv
  obtain ⟨l1,l2,rfl,h3,h4⟩:=hv
  exact aZ (by simp only [SV.rel];exact ⟨l1,l2,rfl,by simpa only [SV.bx] using h3,EK hr ns l2 h4⟩)
 case ife t=>
  obtain ⟨v,rfl,hv⟩:=bW h
  exact aZ (adj hv)
 case ifp t n=>
  obtain ⟨v,rfl,hv⟩:=bW h
  simp only [SV.rel] at hv
  obtain ⟨y,rfl,hy⟩:=hv
  exact aZ (by simp only [SV.rel];exact ⟨y,rfl,hy.1,xA hr hy.2⟩)
 all_goals (
  obtain ⟨v,rfl,hv⟩:=bW h
  simp only [SV.rel] at hv
  exact aZ (by simp only [SV.rel];exact hv))
omit hr in
theorem LS {s:Sh} {y:s.T}:(yn ν s y).length=(oo s y).length:=by
 cases s<;>first|rfl|simp only [oo,yn,bR,List.length_cons,List.length_nil]
theorem TU {s:Sh} (hl:lists=true\/s.cp=false) {y:s.T} {v:Value} (h:SV.rel N (sU s y) v):SV.rel R (QU ν s y) v:=by
 unfold sU at h
 unfold QU
 unfold rF at h⊢
 cases ha:s.agg<;>rw [ha] at h
 ·simp only [Bool.false_eq_true,if_false] at h⊢
  cases s
  case val b t=>
   simp only [oo,yn] at h⊢
   cases hc:unpack t y with
   |nil=>simp [SV.rel]
   |cons u l=>
    rw [hc] at h
    rcases hl with hl|hl
    ·have:=kc t y
     rw [hc] at this
     simp only [ax,av] at this
     exact TP (hr.F hl) this.1 h
    ·have:=lU t (gj hl) y
     rw [hc] at this
     simp only [ax,av] at this
     exact ahe this.1 h
  case mix a n b=>cases ha
  all_goals (
   have h1:=xL (y:=y) hr hl (aZ h)
   obtain ⟨v',he,hv⟩:=bW h1
   cases he
   exact hv)
 ·simp only [if_true,SV.rel] at h⊢
  obtain ⟨vs,h1,h2,h3⟩:=h
  exact ⟨vs,h1,xL hr hl h2,h3⟩
end
end Sx
end
section
namespace Sx
open Go
theorem OT.run_bind {α β:Type} {f:α->OT β}:∀ {t:OT α} {b:β},(t.bind f).run=some b->∃ a,t.run=some a/\(f a).run=some b
 |.ok a,b,h=>⟨a,rfl,h⟩
 |.br c x y,b,h=>by
  cases c
  ·exact OT.run_bind (t:=y) h
  ·exact OT.run_bind (t:=x) h
 |.fail,b,h=>by cases h
theorem se {m:Nat}:∀ (u:List (Nat×Ch)) {hp:Hp},m ∈ bt u->∃ ch,(m,ch) ∈ u/\cG hp u m=some ch
 | [],_,h=>by simp [bt] at h
 |(c,ch)::r,hp,h=>by
  by_cases h2:m ∈ bt r
  ·obtain ⟨ch',h3,h4⟩:=se r (hp:=λn=>if n=c then some ch else hp n) h2
   exact ⟨ch',by simp [h3],h4⟩
  ·have h1:m=c:=by
    simp only [bt,List.map_cons,List.mem_cons] at h
    exact h.resolve_right h2
   subst h1
   refine ⟨ch,by simp,?_⟩
   simp only [cG]
   rw [eo r h2]
   simp
theorem zO {ν:Nm} {bd:Bd} {ok:Nat->Bool} {hp:Hp}:∀ {l:List (Nat×CSh)} {x:FO l} {c:Nat} {ch:Ch},eT bd ok hp l=some x->(c,ch) ∈ kb ν l x->
 ∃ n s y,(n,s) ∈ l/\c=(ν n).1/\kl bd ok hp n s=some y/\ch=⟨(ν n).2,gv ν s y⟩
 | [],_,_,_,_,h=>by cases h
 |q::r,x,c,ch,hp,h=>by
  obtain ⟨h1,h2⟩:=aU hp
  simp only [kb,List.mem_cons] at h
  rcases h with h|h
  ·cases h
   exact ⟨q.1,q.2,x.1,by simp,rfl,h1,rfl⟩
  ·obtain ⟨n,s,y,k1,k2⟩:=zO h2 h
   exact ⟨n,s,y,by simp [k1],k2⟩
theorem o6 {ν:Nm}:∀ {l:List (Nat×CSh)} {x:FO l} {c:Nat},c ∈ bt (kb ν l x) ↔ ∃ n s,(n,s) ∈ l/\c=(ν n).1
 | [],_,_=>by simp [kb,bt]
 |q::r,x,c=>by
  have ih:=o6 (ν:=ν) (l:=r) (x:=x.2) (c:=c)
  unfold bt at ih⊢
  simp only [kb,List.map_cons,List.mem_cons]
  constructor
  ·rintro (h|h)
   ·exact ⟨q.1,q.2,.inl rfl,h⟩
   ·obtain ⟨n,s,h1,h2⟩:=ih.1 h
    exact ⟨n,s,.inr h1,h2⟩
  ·rintro ⟨n,s,h1|h1,h2⟩
   ·left;rw [<-h1] at*;exact h2
   ·exact .inr (ih.2 ⟨n,s,h1,h2⟩)
theorem lT {bd:Bd} {hp:Hp} {fixed:Nat}:∀ {l:List (Nat×CSh)} {c:Nat} {ch:Ch},(c,ch) ∈ dE bd hp fixed l->(∃ n,du bd n=some (some c)/\fixed<=n)/\ch=⟨Zj hp c+1,.row .u8 []⟩
 | [],_,_,h=>by cases h
 |q::r,c,ch,h=>by
  simp only [dE] at h
  cases hb:Nat.blt q.1 fixed
  ·rw [hb] at h
   simp only [bo] at h
   split at h
   ·rename_i o ho
    simp only [List.mem_cons] at h
    rcases h with h|h
    ·cases h
     have:¬q.1<fixed:=λhlt=>by rw [XW hlt] at hb;cases hb
     exact ⟨⟨q.1,ho,by omega⟩,rfl⟩
    ·exact lT h
   ·exact lT h
  ·rw [hb] at h
   exact lT (by simpa using h)
theorem G3 {bd:Bd} {hp:Hp} {fixed:Nat}:∀ {l:List (Nat×CSh)} {n c:Nat} {s:CSh},(n,s) ∈ l->du bd n=some (some c)->fixed<=n->c ∈ bt (dE bd hp fixed l)
 | [],_,_,_,h,_,_=>by cases h
 |q::r,n,c,s,h,hb,hn=>by
  simp only [dE]
  rcases List.mem_cons.1 h with h|h
  ·subst h
   have:Nat.blt n fixed=false:=by
    cases hq:Nat.blt n fixed
    ·rfl
    ·have:=db hq;omega
   unfold bt
   simp only [this,bo,hb,List.map_cons,List.mem_cons]
   exact .inl trivial
  ·have ih:=G3 (hp:=hp) h hb hn
   cases Nat.blt q.1 fixed
   ·simp only [bo]
    split
    ·unfold bt at ih⊢
     simp only [List.map_cons,List.mem_cons]
     exact .inr ih
    ·exact ih
   ·exact ih
theorem iu:∀ (u v:List (Nat×Ch)) {hp:Hp},cG hp (u++v)=cG (cG hp u) v
 | [],_,_=>rfl
 |(c,ch)::r,v,hp=>iu r v
theorem aqO {u:List (Nat×Ch)} {c:Nat} {ch:Ch} (h:(c,ch) ∈ u):c ∈ bt u:=List.mem_map.2 ⟨_,h,rfl⟩
theorem jm:∀ {l:List (Nat×CSh)},distinct (l.map (·.1))=true->∀ {n:Nat} {s s':CSh},(n,s) ∈ l->(n,s') ∈ l->s=s'
 | [],_,_,_,_,h,_=>by cases h
 |q::r,hd,n,s,s',h,h'=>by
  simp only [List.map_cons,distinct,av,Bool.not_eq_true'] at hd
  have no:∀ s,(n,s) ∈ r->q.1≠n:=λs hs e=>by
   have:=hd.1
   rw [List.any_eq_false] at this
   exact this n (List.mem_map.2 ⟨_,hs,rfl⟩) (by rw [e];exact Nat.beq_refl n)
  rcases List.mem_cons.1 h with h|h<;>rcases List.mem_cons.1 h' with h'|h'
  ·rw [<-h'] at h;cases h;rfl
  ·exact absurd (by rw [<-h]) (no s' h')
  ·exact absurd (by rw [<-h']) (no s h)
  ·exact jm hd.2 h h'
theorem kL {ν:Nm}:∀ {l:List Sh} {x:ShT l},(oq ν l x).length=(lE l x).length
 | [],_=>rfl
 |s::r,x=>by simp only [oq,lE,bR,LS,kL]
theorem sW {ν:Nm} {s:CSh} {y:s.T}:(gv ν s y).shape=(cv s y).shape:=by
 cases s<;>simp only [gv,cv,Chunk.shape]
 case cells l=>
  have:=kL (ν:=ν) (l:=l) (x:=y)
  rw [this]
theorem lD {ν:Nm} {s:CSh} {y:s.T}:(gv ν s y).mut=(cv s y).mut:=by
 cases s<;>rfl
theorem VN {s:CSh} {y:s.T}:(cv s y).mut= !s.VF:=by
 cases s<;>rfl
end Sx
end
section
namespace Sx
open Go
section
variable {R:Ctx} {w w':World} {S:af} {args:List SV} {bd:Bd} {xc:FO S.chunks} {N N2:Ctx} {o:aH} {yc:FO o.chunks} {base:Nat}
def Ctx.aG2 (N:Ctx) (k:Nat):Ctx:= {N with hp:=λn=>cond (Nat.blt n k) (N.hp n) none}
structure zH (R:Ctx) (w w':World) (S:af) (args:List SV) (bd:Bd) (xc:FO S.chunks) (N2:Ctx) (o:aH) (yc:FO o.chunks) (base:Nat):Prop where
 hm:cu R w
 ok:S.inp.KT ⟨args,R.hp⟩ bd=true
 hx:eT bd (tj S.bF bd) R.hp S.chunks=some xc
 ext:((R.named (R.A4 bd S.bF w) (R.Gg bd S.bF w) bd (dH S.chunks xc)).aG2 S.fixed).Ext N2
 hm2:cu N2 w'
 hp2:N2.hp=dH o.chunks yc
 aG8:∃ bd2 ok2 hp2,eT bd2 ok2 hp2 o.chunks=some yc
 aEw:distinct (o.chunks.map (·.1))=true
 nV:S.nV bd R.hp base o=true
open Classical in
noncomputable def Ctx.kB (R:Ctx) (bd:Bd) (w:World) (N2:Ctx):Nat->Option Obj:=λb=>
 if b<w.heap.size/\¬R.BI bd b then R.F b else N2.F b
open Classical in
noncomputable def Ctx.eD (R:Ctx) (bd:Bd) (w:World) (S:af) (N2:Ctx) (o:aH) (yc:FO o.chunks) (base:Nat):Ctx:=
 ⟨R.kB bd w N2,R.U,λc=>match o.chunks.find? (λq=>Nat.beq (S.nm bd R.hp base q.1).1 c) with
  |some q=>N2.σ q.1
  |none=>if c ∈ bt (dE bd R.hp S.fixed S.chunks) then none else R.σ c,
  cG R.hp (dE bd R.hp S.fixed S.chunks++kb (S.nm bd R.hp base) o.chunks yc)⟩
variable (H:zH R w w' S args bd xc N2 o yc base)
include H
theorem zH.inF:∀ b o',R.A4 bd S.bF w b=some o'->N2.F b=some o':=λb o' h=>H.ext.F b o' h
theorem zH.inU:N2.U=R.Gg bd S.bF w:=H.ext.U
theorem zH.old:∀ b,b<w.heap.size->¬R.BI bd b->w'.heap[b]? =w.heap[b]? :=
 stays H.hm H.inF H.inU H.hm2.F H.hm2.U
theorem aGV {b:Nat} {o':Obj} (h:R.F b=some o'):b<w.heap.size/\¬R.BI bd b:=
 ⟨(Array.getElem?_eq_some_iff.1 (H.hm.F b o' h)).1,λhb=>by rw [(Ec H.hm hb).1] at h;cases h⟩
theorem BO:∀ b o',R.F b=some o'->R.kB bd w N2 b=some o':=λb o' h=>by
 unfold Ctx.kB
 rw [if_pos (aGV H h)]
 exact h
theorem KY:∀ b o',R.kB bd w N2 b=some o'->w'.heap[b]? =some o':=λb o' h=>by
 unfold Ctx.kB at h
 split at h
 ·rename_i hb
  rw [H.old b hb.1 hb.2];exact H.hm.F b o' h
 ·exact H.hm2.F b o' h
theorem KZ (hb:S.bF=false):∀ b o',N2.F b=some o'->R.kB bd w N2 b=some o':=λb o' h=>by
 unfold Ctx.kB
 split
 ·rename_i hq
  cases hR:R.F b with
  |some o2=>
   have h1:=H.hm.F b o2 hR
   rw [<-H.old b hq.1 hq.2,H.hm2.F b o' h] at h1
   exact h1.symm
  |none=>
   exfalso
   have h2:=H.hm2.FU b o' h
   rw [H.inU] at h2
   unfold Ctx.Gg at h2
   dsimp only at h2
   rw [if_neg (by rintro (h|h|⟨o2,h⟩);exact hq.2 h;rw [hb] at h;cases h;rw [hR] at h;cases h)] at h2
   simp [hq.1] at h2
 ·exact h
theorem KL {b:Nat} (hF:N2.F b=none) (hU:N2.U b=none):R.F b=none/\R.U b=none/\R.kB bd w N2 b=none/\(w.heap.size<=b\/R.BI bd b):=by
 by_cases hb:b<w.heap.size
 ·have hs:w.heap[b]? =some w.heap[b]:=by simp [hb]
  have hbd:R.BI bd b:=la λhn=>by
   have h1:R.A4 bd S.bF w b=none:=by
    cases hq:R.A4 bd S.bF w b with
    |none=>rfl
    |some o'=>rw [H.inF b o' hq] at hF;cases hF
   rw [H.inU] at hU
   unfold Ctx.Gg at hU
   dsimp only at hU
   unfold Ctx.A4 at h1
   rw [if_neg hn] at h1
   by_cases hbo:S.bF=true
   ·rw [if_pos hbo,hs] at h1;cases h1
   ·rw [if_neg hbo] at h1
    rw [if_neg (by rintro (h|h|⟨o2,h⟩);exact hn h;exact hbo h;rw [h1] at h;cases h),hs] at hU
    cases hU
  refine ⟨(Ec H.hm hbd).1,(Ec H.hm hbd).2,?_,.inr hbd⟩
  unfold Ctx.kB
  rw [if_neg (λh=>h.2 hbd)]
  exact hF
 ·refine ⟨?_,?_,?_,.inl (by omega)⟩
  ·cases hR:R.F b with
   |none=>rfl
   |some o'=>exact absurd (aGV H hR).1 hb
  ·cases hR:R.U b with
   |none=>rfl
   |some o'=>exact absurd (Array.getElem?_eq_some_iff.1 (H.hm.U b o' hR)).1 hb
  ·unfold Ctx.kB
   rw [if_neg (λh=>hb h.1)]
   exact hF
theorem qC:S.bF=false\/(o.rs.any Sh.cp=false/\∀ q ∈ o.chunks,q.2.cp=false/\(q.2.VF=true->q.1<S.fixed)):=by
 have h:=H.nV
 unfold af.nV at h
 simp only [av] at h
 have h1:=h.1
 cases hb:S.bF
 ·exact .inl rfl
 ·right
  rw [hb] at h1
  simp only [Bool.not_true,Bool.false_or,Bool.not_eq_true',Bool.or_eq_false_iff] at h1
  refine ⟨h1.1,λq hq=> ?_⟩
  have h2:=List.any_eq_false.1 h1.2 q hq
  simp only [Bool.or_eq_true,av,Bool.not_eq_true',not_or,not_and] at h2
  refine ⟨by simpa using h2.1,λhf=> ?_⟩
  have:=h2.2 hf
  exact db (by simpa using this)
theorem J6 {k:Nat} (hk:k<S.fixed):(∃ c,du bd k=some (some c))/\∃ s,(k,s) ∈ o.chunks:=by
 have h:=H.nV
 unfold af.nV at h
 simp only [av,fX] at h
 have h1:=h.2.1 k (by simpa using hk)
 constructor
 ·have h2:=h1.1
  split at h2
  ·rename_i c hc;exact ⟨c,hc⟩
  ·cases h2
 ·obtain ⟨q,hq,he⟩:=List.any_eq_true.1 h1.2
  have:=aX he
  subst this
  exact ⟨q.2,hq⟩
theorem asR {q:Nat×CSh} (hq:q ∈ o.chunks) {q':Nat×CSh} (hq':q' ∈ S.chunks) (he:q.1=q'.1) (hf:q.1<S.fixed):q.2.VF=q'.2.VF:=by
 have h:=H.nV
 unfold af.nV at h
 simp only [av,fX] at h
 have h1:=h.2.2.1 q hq q' hq'
 simp only [he,Nat.beq_refl,Bool.not_true,Bool.false_or] at h1
 rw [he] at hf
 rw [XW hf] at h1
 simpa using h1
theorem tD {q:Nat×CSh} (hq:q ∈ o.chunks):q.2.iz=false/\(q.1<S.fixed\/(q.1-S.fixed<64/\R.hp (base+(q.1-S.fixed))=none)):=by
 have h:=H.nV
 unfold af.nV at h
 simp only [av,fX] at h
 have h1:=h.2.2.2 q hq
 simp only [Bool.or_eq_true,av,Bool.not_eq_true'] at h1
 refine ⟨h1.1,?_⟩
 rcases h1.2 with h2|h2
 ·exact .inl (db h2)
 ·refine .inr ⟨db h2.1,?_⟩
  have:=h2.2
  cases hq:R.hp (base+(q.1-S.fixed)) with
  |none=>rfl
  |some c=>rw [hq] at this;cases this
end
end Sx
end
section
namespace Sx
open Go
section
variable {R:Ctx} {w w':World} {S:af} {args:List SV} {bd:Bd} {xc:FO S.chunks} {N N2:Ctx} {o:aH} {yc:FO o.chunks} {base:Nat}
variable (H:zH R w w' S args bd xc N2 o yc base)
include H
theorem MV {n:Nat} {s:CSh} (h:(n,s) ∈ o.chunks):∃ y:s.T,N2.hp n=some ⟨0,cv s y⟩/\((S.nm bd R.hp base n).1,(⟨(S.nm bd R.hp base n).2,gv (S.nm bd R.hp base) s y⟩:Ch)) ∈ kb (S.nm bd R.hp base) o.chunks yc:=by
 obtain ⟨bd2,ok2,hp2,hp⟩:=H.aG8
 obtain ⟨ch,hch⟩:=sV (x:=yc) (n:=n) ⟨s,h⟩
 obtain ⟨s',y,h1,h2,h3⟩:=dL hp hch
 obtain rfl:=jm H.aEw h h1
 have hg:=(tD H h).1
 have hep:s.ep=0:=by cases s<;>first|rfl|(cases hg)
 refine ⟨y,by rw [H.hp2,hch,h3,hep],?_⟩
 have:∀ {l:List (Nat×CSh)} {x:FO l},eT bd2 ok2 hp2 l=some x->(n,s) ∈ l->((S.nm bd R.hp base n).1,(⟨(S.nm bd R.hp base n).2,gv (S.nm bd R.hp base) s y⟩:Ch)) ∈ kb (S.nm bd R.hp base) l x:=by
  intro l
  induction l with
  |nil=>simp
  |cons q r ih=>
   intro x hp hm
   obtain ⟨p1,p2⟩:=aU hp
   grind [kb]
 grind
theorem ajZ {c:Nat} {ch:Ch} (h:(c,ch) ∈ kb (S.nm bd R.hp base) o.chunks yc):∃ n s,∃ y:s.T,(n,s) ∈ o.chunks/\c=(S.nm bd R.hp base n).1/\N2.hp n=some ⟨0,cv s y⟩/\ch=⟨(S.nm bd R.hp base n).2,gv (S.nm bd R.hp base) s y⟩:=by
 obtain ⟨bd2,ok2,hp2,hp⟩:=H.aG8
 obtain ⟨n,s,y,h1,h2,h3,h4⟩:=zO hp h
 refine ⟨n,s,y,h1,h2,?_,h4⟩
 obtain ⟨ch,hch⟩:=sV (x:=yc) (n:=n) ⟨s,h1⟩
 obtain ⟨s',y',k1,k2,k3⟩:=dL hp hch
 obtain rfl:=jm H.aEw h1 k1
 have:y=y':=(by grind)
 subst this
 have hg:=(tD H h1).1
 have hep:s.ep=0:=by cases s<;>first|rfl|(cases hg)
 rw [H.hp2,hch,k3,hep]
omit H in
theorem Ih {n:Nat} (h:n<S.fixed):S.nm bd R.hp base n=(nameOf bd n,Zj R.hp (nameOf bd n)):=by
 unfold af.nm;rw [XW h];rfl
omit H in
theorem aDL {n:Nat} (h:S.fixed<=n):S.nm bd R.hp base n=(base+(n-S.fixed),0):=by
 unfold af.nm
 have:Nat.blt n S.fixed=false:=by
  cases hq:Nat.blt n S.fixed
  ·rfl
  ·have:=db hq;omega
 rw [this];rfl
theorem mu {k:Nat} (hk:k<S.fixed):∃ c ch,∃ ch2:Ch,du bd k=some (some c)/\nameOf bd k=c/\R.hp c=some ch/\Zj R.hp c=ch.ep/\N2.hp k=some ch2/\ch2.ep=0/\ch2.body.shape=ch.body.shape/\N2.σ k=R.σ c/\
 (∃ cs,(k,cs) ∈ S.chunks/\(!cs.VF)=ch.body.mut):=by
 obtain ⟨⟨c,hb⟩,s,hs⟩:=J6 H hk
 obtain ⟨cs,y,h1,h2⟩:=Si (s:=S.inp) (st:=⟨args,R.hp⟩) H.ok H.hx hb
 simp [kl,hb] at h1
 split at h1
 ·rename_i ch hch
  obtain ⟨y2,g1,_⟩:=MV H hs
  obtain ⟨ch2,e1,e2,e3⟩:=H.ext.ch k ⟨0,cv cs y⟩ (by
   show cond (Nat.blt k S.fixed) (dH S.chunks xc k) none=_
   rw [XW hk];exact h2)
  rw [g1] at e1
  cases e1
  have e4:=e3 rfl
  refine ⟨c,ch,_,hb,by grind [nameOf],hch,by grind [Zj],g1,rfl,e4.1.trans (wq h1),?_,?_⟩
  ·grind [Ctx.aG2,Ctx.named]
  ·obtain ⟨s3,y3,k1,k2,k3⟩:=dL H.hx h2
   grind [kl,EM,VN]
 grind
theorem aAB {n m:Nat} {s s':CSh} (hn:(n,s) ∈ o.chunks) (hm:(m,s') ∈ o.chunks) (h:(S.nm bd R.hp base n).1=(S.nm bd R.hp base m).1):n=m:=by
 have half:∀ {a b:Nat} {t t':CSh},(a,t) ∈ o.chunks->(b,t') ∈ o.chunks->a<S.fixed->S.fixed<=b->(S.nm bd R.hp base a).1=(S.nm bd R.hp base b).1->False:=λ{a b t t'} h1 h2 h3 h4 h5=>by
  rw [Ih h3,aDL h4] at h5
  obtain ⟨c,ch,_,g1,g2,g3,_⟩:=mu H h3
  rcases (tD H h2).2 with hq|hq
  ·have:b<S.fixed:=hq
   omega
  grind
 rcases Nat.lt_or_ge n S.fixed with h1|h1<;>rcases Nat.lt_or_ge m S.fixed with h2|h2
 ·rw [Ih h1,Ih h2] at h
  obtain ⟨c,_,_,g1,g2,_⟩:=mu H h1
  obtain ⟨c',_,_,g1',g2',_⟩:=mu H h2
  have hok:=H.ok
  unfold Shape.KT at hok
  simp only [av,fX,List.any_eq_true] at hok
  obtain ⟨p,hp,hpe⟩:=hok.1.2 _ (oF g1)
  obtain ⟨p',hp',hpe'⟩:=hok.1.2 _ (oF g1')
  have e1:=aX hpe
  have e2:=aX hpe'
  have h3:=hok.1.1.2 p hp p' hp'
  simp_all
 ·exact (half hn hm h1 h2 h).elim
 ·exact (half hm hn h2 h1 h.symm).elim
 grind [aDL]
theorem Pw {n:Nat} {s:CSh} (h:(n,s) ∈ o.chunks):(R.eD bd w S N2 o yc base).σ (S.nm bd R.hp base n).1=N2.σ n:=by
 show (match o.chunks.find? (λq=>Nat.beq (S.nm bd R.hp base q.1).1 (S.nm bd R.hp base n).1) with|some q=>N2.σ q.1|none=>_)=_
 cases hf:o.chunks.find? (λq=>Nat.beq (S.nm bd R.hp base q.1).1 (S.nm bd R.hp base n).1) with
 |none=>
  have:=List.find?_eq_none.1 hf (n,s) h
  simp_all
 |some q=>
  grind [List.mem_of_find?_eq_some,aAB,aX]
omit H in
theorem TY {c:Nat} (h:c ∉ bt (kb (S.nm bd R.hp base) o.chunks yc)):(R.eD bd w S N2 o yc base).σ c=(open Classical in if c ∈ bt (dE bd R.hp S.fixed S.chunks) then none else R.σ c):=by
 show (match o.chunks.find? (λq=>Nat.beq (S.nm bd R.hp base q.1).1 c) with|some q=>N2.σ q.1|none=>_)=_
 cases hf:o.chunks.find? (λq=>Nat.beq (S.nm bd R.hp base q.1).1 c) with
 |none=>rfl
 |some q=>
  exfalso
  have h1:=aX (List.find?_some (p:=λq:Nat×CSh=>Nat.beq (S.nm bd R.hp base q.1).1 c) hf)
  have h2:=List.mem_of_find?_eq_some hf
  exact h (o6.2 ⟨q.1,q.2,h2,h1.symm⟩)
theorem Rb {c:Nat} {ch:Ch} (h:(R.eD bd w S N2 o yc base).hp c=some ch):
 (∃ n s,∃ y:s.T,(n,s) ∈ o.chunks/\c=(S.nm bd R.hp base n).1/\N2.hp n=some ⟨0,cv s y⟩/\ch=⟨(S.nm bd R.hp base n).2,gv (S.nm bd R.hp base) s y⟩/\(R.eD bd w S N2 o yc base).σ c=N2.σ n)\/
 (ch=⟨Zj R.hp c+1,.row .u8 []⟩/\(R.eD bd w S N2 o yc base).σ c=none)\/
 (c ∉ bt (kb (S.nm bd R.hp base) o.chunks yc)/\c ∉ bt (dE bd R.hp S.fixed S.chunks)/\R.hp c=some ch/\(R.eD bd w S N2 o yc base).σ c=R.σ c):=by
 have hh:cG (cG R.hp (dE bd R.hp S.fixed S.chunks)) (kb (S.nm bd R.hp base) o.chunks yc) c=some ch:=by
  rw [<-iu];exact h
 by_cases h1:c ∈ bt (kb (S.nm bd R.hp base) o.chunks yc)
 ·obtain ⟨ch',h2,h3⟩:=se _ (hp:=cG R.hp (dE bd R.hp S.fixed S.chunks)) h1
  grind [ajZ,Pw]
 ·rw [eo _ h1] at hh
  have hs:=TY (w:=w) (N2:=N2) h1
  by_cases h2:c ∈ bt (dE bd R.hp S.fixed S.chunks)
  ·obtain ⟨ch',h3,h4⟩:=se _ (hp:=R.hp) h2
   grind [lT]
  grind [eo]
theorem ajY {c:Nat} {ch ch':Ch} (h:(c,ch) ∈ kb (S.nm bd R.hp base) o.chunks yc) (h':(c,ch') ∈ kb (S.nm bd R.hp base) o.chunks yc):ch=ch':=by
 obtain ⟨bd2,ok2,hp2,hp⟩:=H.aG8
 obtain ⟨n,s,y,a1,a2,a3,a4⟩:=zO hp h
 obtain ⟨n',s',y',b1,b2,b3,b4⟩:=zO hp h'
 have e1:=aAB H a1 b1 (by omega)
 subst e1
 obtain rfl:=jm H.aEw a1 b1
 grind
theorem aGe {n:Nat} {s:CSh} (h:(n,s) ∈ o.chunks):∃ y:s.T,N2.hp n=some ⟨0,cv s y⟩/\(R.eD bd w S N2 o yc base).hp (S.nm bd R.hp base n).1=some ⟨(S.nm bd R.hp base n).2,gv (S.nm bd R.hp base) s y⟩:=by
 obtain ⟨y,h1,h2⟩:=MV H h
 refine ⟨y,h1,?_⟩
 obtain ⟨ch',h3,h4⟩:=se _ (hp:=cG R.hp (dE bd R.hp S.fixed S.chunks)) (aqO h2)
 have e:=ajY H h2 h3
 rw [e,<-h4]
 show cG R.hp (_++_) _=_
 rw [iu]
theorem apl:Su N2 (R.eD bd w S N2 o yc base) (S.nm bd R.hp base) (!S.bF):=by
 refine ⟨λn ch h=> ?_,λh b o' hb=>KZ H (by grind) b o' hb⟩
 rw [H.hp2] at h
 obtain ⟨bd2,ok2,hp2,hp⟩:=H.aG8
 obtain ⟨s,y,h1,_,_⟩:=dL hp h
 obtain ⟨y',k1,k2⟩:=aGe H h1
 rw [H.hp2,h] at k1
 cases k1
 exact ⟨rfl,_,k2,rfl,sW,Pw H h1⟩
theorem MW {c:Nat} {ch:Ch} {L:Loc} (h1:c ∉ bt (kb (S.nm bd R.hp base) o.chunks yc)) (h2:c ∉ bt (dE bd R.hp S.fixed S.chunks)) (hc:R.hp c=some ch) (hm:ch.body.mut=true) (hL:R.σ c=some L):¬R.BI bd L.block:=by
 rintro ⟨n,c',ch',L',k1,k2,k3,k4,k5⟩
 have:=H.hm.apart c' c ch' ch L' L k2 hc k3 hm k4 hL k5
 subst this
 rcases Nat.lt_or_ge n S.fixed with hn|hn
 ·grind [J6,o6,Ih,nameOf]
 ·have hok:=H.ok
  unfold Shape.KT at hok
  simp only [av,fX,List.any_eq_true] at hok
  obtain ⟨p,hp,hpe⟩:=hok.1.2 _ (oF k1)
  have e1:p.1=n:=aX hpe
  subst e1
  exact h2 (G3 (s:=p.2) hp k1 hn)
end
end Sx
end
section
namespace Sx
open Go
theorem BB {N R:Ctx} {ν:Nm} {lists:Bool} (hr:Su N R ν lists):∀ {l:List Sh} (_:lists=true\/l.any Sh.cp=false) {x:ShT l} {us:List Value},SV.bx N (lE l x) us->SV.bx R (oq ν l x) us
 | [],_,_,_,h=>h
 |s::r,hl,x,us,h=>by
  have h1:lists=true\/s.cp=false:=(by grind)
  have h2:lists=true\/r.any Sh.cp=false:=(by grind)
  simp [lE] at h
  simp [oq]
  have t1:=SV.cP h (oo s x.1).length
  have t2:=SV.cQ h (oo s x.1).length
  rw [List.take_left] at t1
  rw [List.drop_left] at t2
  have:=SV.bz (xL hr h1 t1) (BB hr h2 t2)
  simp_all
section
variable {R:Ctx} {w w':World} {S:af} {args:List SV} {bd:Bd} {xc:FO S.chunks} {N N2:Ctx} {o:aH} {yc:FO o.chunks} {base:Nat}
variable (H:zH R w w' S args bd xc N2 o yc base)
include H
theorem ahK:R.Ext (R.eD bd w S N2 o yc base):=by
 refine ⟨BO H,rfl,λc ch hc=> ?_⟩
 by_cases h1:c ∈ bt (kb (S.nm bd R.hp base) o.chunks yc)
 ·obtain ⟨n,s,hs,rfl⟩:=o6.1 h1
  obtain ⟨y,k1,k2⟩:=aGe H hs
  rcases Nat.lt_or_ge n S.fixed with hn|hn
  ·grind [mu,Pw,Ih,sW]
  ·rcases (tD H hs).2 with hq|hq
   ·omega
   grind [aDL]
 ·by_cases h2:c ∈ bt (dE bd R.hp S.fixed S.chunks)
  ·obtain ⟨ch',h3,h4⟩:=se _ (hp:=R.hp) h2
   refine ⟨ch',?_,?_⟩
   ·show cG R.hp (_++_) c=_
    simp_all [iu,eo]
   ·rw [(lT h3).2]
    grind [Zj]
  ·refine ⟨ch,?_,(by simp),λ_=>⟨rfl,?_⟩⟩
   ·show cG R.hp (_++_) c=_
    simp_all [iu,eo]
   grind [TY]
theorem apk {s:CSh} {n:Nat} (h:(n,s) ∈ o.chunks) (t:Ty) (ht:s=.row t\/s=.frz t):∀ (x:t.T) (cs:List Value),Rep N2.F t x cs->Rep (R.kB bd w N2) t x cs:=λx cs hr=>by
 rcases qC H with hb|⟨_,hq⟩
 ·grind [bO,KZ]
 ·have:=(hq _ h).1
  refine vZ t ?_ x cs hr
  rcases ht with rfl|rfl<;>exact this
theorem axS {s:CSh} {n:Nat} (h:(n,s) ∈ o.chunks):(!S.bF)=true\/s.cp=false:=by
 rcases qC H with hb|⟨_,hq⟩
 ·grind
 grind
theorem ady {n:Nat} {s:CSh} {y:s.T} (hs:(n,s) ∈ o.chunks) (hn:N2.hp n=some ⟨0,cv s y⟩) {e:Nat} {c:Nat} (hσ:(R.eD bd w S N2 o yc base).σ c=N2.σ n) (hc:c=(S.nm bd R.hp base n).1):
 eG (R.eD bd w S N2 o yc base) w' c ⟨e,gv (S.nm bd R.hp base) s y⟩:=by
 have h0:=H.hm2.ch n _ hn
 have hrep:=apk H hs
 have hgone:=(tD H hs).1
 cases s with
 |row t=>
  simp only [eG,cv] at h0⊢
  rw [hσ]
  refine ⟨h0.1,h0.2.1,?_⟩
  cases hL:N2.σ n with
  |none=>grind
  |some L=>
   have:=h0.2.2
   rw [hL] at this
   obtain ⟨c1,c2,arr,E,c3,c4,c5,c6⟩:=this
   obtain ⟨_,d2,d3,_⟩:=KL H c1 c2
   exact ⟨d3,d2,arr,E,c3,c4,c5,λi hi=>hrep t (.inl rfl) _ _ (c6 i hi)⟩
 |frz t=>
  simp only [eG,cv] at h0⊢
  rw [hσ]
  refine ⟨h0.1,h0.2.1,?_⟩
  cases hL:N2.σ n with
  |none=>grind
  |some L=>
   have:=h0.2.2
   rw [hL] at this
   obtain ⟨arr,E,fz,c3,c4,c5,c6⟩:=this
   refine ⟨arr,E,fz,?_,c4,c5,λi hi=>hrep t (.inr rfl) _ _ (c6 i hi)⟩
   rcases qC H with hb|⟨_,hq⟩
   ·exact KZ H hb _ _ c3
   ·have hf:n<S.fixed:=(hq _ hs).2 rfl
    obtain ⟨c',ch',ch2,g1,g2,g3,g4,g5,g6,g7,g8,cs,g9,g10⟩:=mu H hf
    have hfz:=asR H hs g9 rfl hf
    have hmu:ch'.body.mut=false:=by rw [<-g10,<-hfz];rfl
    obtain ⟨o',ho⟩:=(dr H.hm g3 (by rw [<-g8];omega)).2 hmu
    have h1:=BO H _ _ ho
    have h2:=KY H _ _ h1
    rw [H.hm2.F _ _ c3] at h2
    cases h2
    exact h1
 |cells l=>
  obtain ⟨L,h1,h2,h3,arr,E,h4,h5,h6,h7,h8⟩:=h0
  obtain ⟨_,d2,d3,_⟩:=KL H h2 h3
  refine ⟨L,by grind,d3,d2,arr,E,h4,h5,h6.trans (kL (l:=l) (x:=y)).symm,BB (apl H) ?_ h7,h8⟩
  exact axS H hs
 |gone=>cases hgone
theorem azf:cu (R.eD bd w S N2 o yc base) w':=by
 refine ⟨KY H,λb o' h=> ?_,λc ch hc=> ?_,λc c' ch ch' L L' h1 h2 m1 m2 s1 s2 hb=> ?_,λb o' h=> ?_,by have h2:=H.hm2.env;rw [H.inU] at h2;exact h2⟩
 ·have h1:=H.hm.U b o' h
  have hlt:=(Array.getElem?_eq_some_iff.1 h1).1
  replace h:R.U b=some o':=h
  rw [H.old b hlt (λhq=>by rw [(Ec H.hm hq).2] at h;cases h)]
  exact h1
 ·rcases Rb H hc with ⟨n,s,y,k1,k2,k3,rfl,k5⟩|⟨rfl,k2⟩|⟨k1,k2,k3,k4⟩
  ·exact ady H k1 k3 k5 k2
  ·simp only [eG]
   rw [k2]
   exact ⟨by decide,by simp,trivial⟩
  ·have h0:=H.hm.ch c ch k3
   have hfree:∀ L,ch.body.mut=true->R.σ c=some L->¬R.BI bd L.block:=λL hm hL=>MW H k1 k2 k3 hm hL
   obtain ⟨ep,body⟩:=ch
   cases body with
   |row t xs=>
    simp only [eG] at h0⊢
    rw [k4]
    refine ⟨h0.1,h0.2.1,?_⟩
    cases hL:R.σ c with
    |none=>have:=h0.2.2;rw [hL] at this;exact this
    |some L=>
     have:=h0.2.2
     rw [hL] at this
     obtain ⟨c1,c2,arr,E,c3,c4,c5,c6⟩:=this
     have hlt:=(Array.getElem?_eq_some_iff.1 c3).1
     have hf:=hfree L rfl hL
     refine ⟨?_,c2,arr,E,(H.old _ hlt hf).trans c3,c4,c5,λi hi=>bO (BO H) _ _ _ (c6 i hi)⟩
     show R.kB bd w N2 L.block=none
     grind [Ctx.kB]
   |frz t xs=>
    simp only [eG] at h0⊢
    rw [k4]
    refine ⟨h0.1,h0.2.1,?_⟩
    cases hL:R.σ c with
    |none=>have:=h0.2.2;rw [hL] at this;exact this
    |some L=>
     have:=h0.2.2
     rw [hL] at this
     obtain ⟨arr,E,fz,c3,c4,c5,c6⟩:=this
     exact ⟨arr,E,fz,BO H _ _ c3,c4,c5,λi hi=>bO (BO H) _ _ _ (c6 i hi)⟩
   |cells vs=>
    simp only [eG] at h0⊢
    obtain ⟨L,hL,c1,c2,arr,E,c3,c4,c5,c6,c7⟩:=h0
    have hlt:=(Array.getElem?_eq_some_iff.1 c3).1
    have hf:=hfree L rfl hL
    refine ⟨L,k4.trans hL,?_,c2,arr,E,(H.old _ hlt hf).trans c3,c4,c5,SV.eH (ahK H) _ _ c6,c7⟩
    show R.kB bd w N2 L.block=none
    unfold Ctx.kB
    rw [if_pos ⟨hlt,hf⟩]
    exact c1
 ·have inn:∀ (n:Nat) (s:CSh) (y:s.T) (L:Loc),N2.hp n=some ⟨0,cv s y⟩->(cv s y).mut=true->N2.σ n=some L->w.heap.size<=L.block\/R.BI bd L.block:=λn s y L a1 a2 a3=>by
   have:=(dr H.hm2 a1 a3).1 a2
   exact (KL H this.1 this.2).2.2.2
  have out:∀ (c:Nat) (ch:Ch) (L:Loc),c ∉ bt (kb (S.nm bd R.hp base) o.chunks yc)->c ∉ bt (dE bd R.hp S.fixed S.chunks)->R.hp c=some ch->ch.body.mut=true->R.σ c=some L->L.block<w.heap.size/\¬R.BI bd L.block:=λc ch L a1 a2 a3 a4 a5=>by
   refine ⟨?_,MW H a1 a2 a3 a4 a5⟩
   have h0:=H.hm.ch c ch a3
   obtain ⟨ep,body⟩:=ch
   cases body with
   |row t xs=>
    grind [eG]
   |frz t xs=>cases a4
   |cells vs=>
    grind [eG]
  rcases Rb H h1 with ⟨n,s,y,k1,k2,k3,rfl,k5⟩|⟨rfl,k2⟩|⟨k1,k2,k3,k4⟩<;>
   rcases Rb H h2 with ⟨n',s',y',k1',k2',k3',rfl,k5'⟩|⟨rfl,k2'⟩|⟨k1',k2',k3',k4'⟩
  ·rw [k5] at s1
   rw [k5'] at s2
   have a1:(cv s y).mut=true:=by rw [<-lD];exact m1
   have a2:(cv s' y').mut=true:=by rw [<-lD];exact m2
   have:=H.hm2.apart n n' _ _ L L' k3 k3' a1 a2 s1 s2 hb
   rw [k2,k2',this]
  ·rw [k2'] at s2;cases s2
  ·grind [lD]
  ·rw [k2] at s1;cases s1
  ·rw [k2] at s1;cases s1
  ·rw [k2] at s1;cases s1
  ·grind [lD]
  ·rw [k2'] at s2;cases s2
  ·rw [k4] at s1
   rw [k4'] at s2
   exact H.hm.apart c c' ch ch' L L' k3 k3' m1 m2 s1 s2 hb
 ·replace h:R.kB bd w N2 b=some o':=h
  show R.U b=none
  unfold Ctx.kB at h
  split at h
  ·exact H.hm.FU b o' h
  ·rename_i hq
   cases hU:R.U b with
   |none=>rfl
   |some o2=>
    have hlt:=(Array.getElem?_eq_some_iff.1 (H.hm.U b o2 hU)).1
    refine absurd ⟨hlt,λhbd=> ?_⟩ hq
    rw [(Ec H.hm hbd).2] at hU
    cases hU
theorem ane:dD R (R.eD bd w S N2 o yc base) w' (dE bd R.hp S.fixed S.chunks++kb (S.nm bd R.hp base) o.chunks yc):=
 ⟨ahK H,rfl,azf H⟩
end
end Sx
end
section
namespace Sx
open Go
theorem ml:∀ {l:List (Nat×Sh)} {x:SlT l} {tm:List SV},(gP l x tm).length=tm.length
 | [],_,_=>rfl
 |c::r,x,tm=>by simp [gP,ml]
theorem wv:∀ {rs:List Sh} {i j:Nat} {x:SlT (indexed j rs)} {tm:List SV},i<j->(gP (indexed j rs) x tm)[i]? =tm[i]?
 | [],_,_,_,_,_=>rfl
 |s::r,i,j,x,tm,h=>by
  refine (wv (rs:=r) (i:=i) (j:=j+1) (x:=x.2) (by omega)).trans ?_
  grind
theorem rU {N R:Ctx} {ν:Nm} {lists:Bool} (hr:Su N R ν lists):∀ {rs:List Sh} (_:lists=true\/rs.any Sh.cp=false) {i:Nat} {y:SlT (indexed i rs)} {tm:List SV} {us:List Value},tm.length=i+rs.length->
 SV.bx N (gP (indexed i rs) y tm) us->SV.bx R (af.emit.go ν i rs y) (us.drop i)
 | [],_,i,y,tm,us,hl,h=>by
  grind [SV.aJ,indexed,gP,List.length_nil,af.emit.go,List.drop_eq_nil_of_le,uG]
 |s::r,hl',i,y,tm,us,hl,h=>by
  have h1:lists=true\/s.cp=false:=(by grind)
  have h2:lists=true\/r.any Sh.cp=false:=(by grind)
  simp at hl
  have hlen:=SV.aJ h
  rw [ml] at hlen
  have hi:i<us.length:=by omega
  have ih:=rU hr h2 (i:=i+1) (y:=y.2) (tm:=tm.set i (sU s y.1)) (us:=us) (by grind) h
  have hi2:i<(gP (indexed i (s::r)) y tm).length:=by grind [ml]
  have hv:=SV.mT h i hi2 hi
  have hg:(gP (indexed i (s::r)) y tm)[i]=sU s y.1:=by
   have:(gP (indexed i (s::r)) y tm)[i]? =some (sU s y.1):=by
    grind [indexed,gP,wv]
   grind
  grind [af.emit.go,oW,SV.bx,TU]
theorem J7 {ν:Nm}:∀ {rs:List Sh} {i:Nat} {y:SlT (indexed i rs)},(af.emit.go ν i rs y).length=rs.length
 | [],_,_=>rfl
 |s::r,i,y=>by simp [af.emit.go,J7]
theorem aw4 {R:Ctx} {n:Nat} {x:SV} {v:Value} {l:List SV} (hv:SV.rel R x v) (hn:(apj n x).length=n) (hl:l.length=n):∃ us,SV.bx R (apj n x) us/\∀ R',SV.bx R' l us->SV.rel R' (oneOf l) v:=by
 unfold apj at hn⊢
 cases hb:Nat.beq n 1
 ·rw [hb] at hn
  have hne:n≠1:=λe=>by simp_all
  cases x<;>simp at hn⊢ <;>try rfl
  case tup q=>
   obtain ⟨vs,rfl,h1⟩:=hv
   refine ⟨vs,h1,λR' h2=> ?_⟩
   cases l with
   |nil=>exact ⟨vs,rfl,h2⟩
   |cons a l=>
    cases l with
    |nil=>grind
    |cons b l=>exact ⟨vs,rfl,h2⟩
 ·have:=aX hb
  subst this
  refine ⟨[v],aZ hv,λR' h2=> ?_⟩
  cases l with
  |nil=>grind
  |cons a l=>
   grind [oneOf,bW]
section
variable {P:Program} {te:TE} {Φ:Env} (hte:kH P te) (hΦ:nW P Φ) (hany:FP P te Φ)
theorem ahb {R N1:Ctx} {w w':World} {S:af} {args:List SV} {x:S.T} {k d:Nat} (hm:cu R w) (hx:S.inp.prj ⟨args,R.hp⟩=some x)
 (hk:S.chunks.all (λc=>Nat.blt c.1 k&& !c.2.iz)=true)
 (h1:(R.named (R.A4 (S.inp.bd ⟨args,R.hp⟩) S.bF w) (R.Gg (S.inp.bd ⟨args,R.hp⟩) S.bF w) (S.inp.bd ⟨args,R.hp⟩) (dH S.chunks x.2)).Ext N1) (hm1:cu N1 w') {o:aH} {y:(o.shape S.fixed).T} {pan:Bool} {v:SV} {u:Value}
 (hv:SV.rel N1 v u) (hy:o.is y pan v N1.hp) (hend:S.nV (S.inp.bd ⟨args,R.hp⟩) R.hp (fresh R.hp d) o=true):
 ∃ R',dD R R' w' (dE (S.inp.bd ⟨args,R.hp⟩) R.hp S.fixed S.chunks++kb (S.nm (S.inp.bd ⟨args,R.hp⟩) R.hp (fresh R.hp d)) o.chunks y.2)/\
  SV.rel R' (oneOf (af.emit.indexedN (S.nm (S.inp.bd ⟨args,R.hp⟩) R.hp (fresh R.hp d)) o.rs y.1)) u:=by
 obtain ⟨_,hy⟩:=hy
 unfold Shape.prj at hx
 dsimp only at hx
 generalize hbd:S.inp.bd ⟨args,R.hp⟩=bd at*
 cases hb:S.inp.KT ⟨args,R.hp⟩ bd&&Nat.beq args.length S.inp.n
 ·grind
 ·rw [hb] at hx
  rw [av] at hb
  obtain ⟨hx1,hx2⟩:=aU hx
  have hy':=hy
  unfold Shape.prj at hy'
  dsimp only at hy'
  cases hb2:(o.shape S.fixed).KT ⟨apj o.rs.length v,N1.hp⟩ ((o.shape S.fixed).bd ⟨apj o.rs.length v,N1.hp⟩)&&Nat.beq (apj o.rs.length v).length (o.shape S.fixed).n
  ·grind
  ·rw [hb2] at hy'
   rw [av] at hb2
   obtain ⟨hy1,hy2⟩:=aU hy'
   have hlen:(apj o.rs.length v).length=o.rs.length:=aX hb2.2
   obtain ⟨us,hus,hback⟩:=aw4 (l:=af.emit.indexedN (S.nm bd R.hp (fresh R.hp d)) o.rs y.1) hv hlen J7
   have hsm:Small ((R.named (R.A4 bd S.bF w) (R.Gg bd S.bF w) bd (dH S.chunks x.2)).aG2 S.fixed) (o.shape S.fixed).fixed:=λc ch hc=>by
    replace hc:cond (Nat.blt c S.fixed) (dH S.chunks x.2 c) none=some ch:=hc
    cases hq:Nat.blt c S.fixed
    ·grind
    ·rw [hq] at hc
     refine ⟨db hq,?_⟩
     obtain ⟨s,y',g1,g2,g3⟩:=dL hx2 (hc:dH S.chunks x.2 c=some ch)
     have:=(List.all_eq_true.1 hk) _ g1
     simp at this
     rw [g3]
     cases s<;>first|rfl|(cases this.2)
   have hext:((R.named (R.A4 bd S.bF w) (R.Gg bd S.bF w) bd (dH S.chunks x.2)).aG2 S.fixed).Ext N1:=⟨h1.F,h1.U,λc ch hc=>by
    replace hc:cond (Nat.blt c S.fixed) (dH S.chunks x.2 c) none=some ch:=hc
    cases hq:Nat.blt c S.fixed
    ·grind
    ·rw [hq] at hc
     exact h1.ch c ch hc⟩
   obtain ⟨N2,g1,g2⟩:=Shape.aHm (s:=o.shape S.fixed) (a:= {tmps:=us.toArray,defers:= []}) hsm hext ⟨rfl,hm1,hus,by rw [h1.U];rfl⟩ hy
   have hd2:distinct (o.chunks.map (·.1))=true:=by
    have:=hb2.1
    unfold Shape.KT at this
    simp at this
    exact this.1.1.1
   have H:zH R w w' S args bd x.2 N2 o y.2 (fresh R.hp d):=⟨hm,hb.1,hx2,g1,g2.mem,g2.hp,⟨_,_,_,hy2⟩,hd2,hend⟩
   refine ⟨R.eD bd w S N2 o y.2 (fresh R.hp d),ane H,hback _ ?_⟩
   have ht:=g2.tm
   have:=rU (apl H) (rs:=o.rs) ?_ (i:=0) (y:=y.1) (tm:=List.replicate o.rs.length .fY) (us:=us) (by simp) ht
   ·exact this
   grind [qC]
theorem ash {f:FuncId} {fn:Func} {c:Code} (hf:P.funcs[f]? =some fn) (hb:fn.body=some c) (hname:(fn.name== "runtime.NumGoroutine")=false) {S:af} {k:Nat} (hk:S.chunks.all (λc=>Nat.blt c.1 k&& !c.2.iz)=true)
 {W:List SV->Hp->(SV->Hp->Prop)->(SV->Hp->Prop)->Prop}
 (hW:∀ (R:Ctx) (w:World) (args:List SV) (vs:List Value) (K Kp:SV->Hp->Prop),Small R k->R.U.dfs= []->cu R w->SV.bx R args vs->W args R.hp K Kp->Calls P f vs.toArray w (Fv R K Kp)) {pre:S.T->Bool} {F:S.T->OT S.Y}
 (h:∀ x oy,pre x=true->(F x).run=some oy->∃ K Kp,W (S.inp.inj x).tm (S.inp.inj x).hp K Kp/\(∀ v hp,K v hp->oy.1.is oy.2 false v hp)/\∀ v hp,Kp v hp->oy.1.is oy.2 true v hp):aa P f (S.aw pre F):=by
 refine ⟨?_⟩
 intro R w d args vs out hm hr hrun
 refine .inl ⟨fn,hf,hname,(by grind),?_⟩
 simp [af.aw] at hrun
 split at hrun
 ·cases hrun
 ·rename_i x hx
  obtain ⟨hpre,h2⟩:=OT.aD hrun
  obtain ⟨oy,h3,h4⟩:=OT.run_bind h2
  unfold af.emit at h4
  obtain ⟨hend,h5⟩:=OT.aD h4
  obtain ⟨K,Kp,hwp,hK1,hK2⟩:=h x oy hpre h3
  have hx':=hx
  unfold Shape.prj at hx'
  dsimp only at hx'
  cases hbo:S.inp.KT ⟨args,R.hp⟩ (S.inp.bd ⟨args,R.hp⟩)&&Nat.beq args.length S.inp.n
  ·grind
  ·rw [hbo] at hx'
   rw [av] at hbo
   obtain ⟨hx1,hx2⟩:=aU hx'
   have hlen:args.length=S.inp.n:=aX hbo.2
   have hN:=F7 (s:=S.inp) (st:=⟨args,R.hp⟩) (F':=R.A4 (S.inp.bd ⟨args,R.hp⟩) S.bF w) (U':=R.Gg (S.inp.bd ⟨args,R.hp⟩) S.bF w) hbo.1 hx2 rfl hm (Jf hm) (Du hm) acd (Je hm) Jd arl hm.env
   have hargs:SV.bx (R.named (R.A4 (S.inp.bd ⟨args,R.hp⟩) S.bF w) (R.Gg (S.inp.bd ⟨args,R.hp⟩) S.bF w) (S.inp.bd ⟨args,R.hp⟩) (dH S.chunks x.2)) (S.inp.inj x).tm vs:=
    kk (s:=S.inp) (st:=⟨args,R.hp⟩) hbo.1 hx2 rfl hm (Jf hm) (Du hm) hr hx1 (SV.py (by grind [SV.aJ]) λi hi hi'=>by simp [SV.rel])
   have hsm:Small (R.named (R.A4 (S.inp.bd ⟨args,R.hp⟩) S.bF w) (R.Gg (S.inp.bd ⟨args,R.hp⟩) S.bF w) (S.inp.bd ⟨args,R.hp⟩) (dH S.chunks x.2)) k:=λc ch hc=>by
    obtain ⟨s,y',g1,g2,g3⟩:=dL hx2 (hc:dH S.chunks x.2 c=some ch)
    have:=(List.all_eq_true.1 hk) _ g1
    simp only [av] at this
    refine ⟨db this.1,?_⟩
    rw [g3]
    cases s<;>first|rfl|(cases this.2)
   refine (hW _ _ _ _ _ _ hsm rfl hN hargs hwp).mono λen w' hp=> ?_
   rcases hp with ⟨y,v,R₁,rfl,hx1,hm1,hv,hy⟩|⟨y,v,R₁,rfl,hx1,hm1,hv,hy⟩
   ·replace hy:=hK1 _ _ hy
    obtain ⟨R',a1,a2⟩:=ahb hm hx hk hx1 hm1 hv hy hend
    rw [hy.1] at h5
    cases h5
    exact ⟨v,R',rfl,a1,a2⟩
   ·replace hy:=hK2 _ _ hy
    obtain ⟨R',a1,a2⟩:=ahb hm hx hk hx1 hm1 hv hy hend
    rw [hy.1] at h5
    cases h5
    exact ⟨v,R',rfl,a1,a2⟩
include hte hΦ hany
theorem ayM {f:FuncId} {fn:Func} {c:Code} (hf:P.funcs[f]? =some fn) (hb:fn.body=some c) (hname:(fn.name== "runtime.NumGoroutine")=false) {S:af} {k:Nat} (hk:S.chunks.all (λc=>Nat.blt c.1 k&& !c.2.iz)=true) {Λ:Lam}
 (hΛ:∀ R,Small R k->rH P R Λ c) {n:Nat} {pre:S.T->Bool} {F:S.T->OT S.Y}
 (h:∀ x oy,pre x=true->(F x).run=some oy->∃ K Kp,wpf te Φ Λ n fn (S.inp.inj x).tm (S.inp.inj x).hp K Kp/\(∀ v hp,K v hp->oy.1.is oy.2 false v hp)/\∀ v hp,Kp v hp->oy.1.is oy.2 true v hp):aa P f (S.aw pre F):=
 ash hf hb hname hk (λR w args vs K Kp hsm hd hm ha hw=>GN hte hΦ hany hf hb (hΛ R hsm) hd hm ha hw) h
end
end Sx
end
section
namespace Sx
open Go
theorem KS {b:Bd} {n m:Nat} {o o':Option Nat} (h:du b m=some o'):du (Sj b n o) m=some o':=by grind [Sj,du,Nat.beq,aX]
theorem Fi:∀ {ns:List Nat} {l:List SV} {b:Bd} {m:Nat} {o:Option Nat},du b m=some o->du (Gw ns l b) m=some o
 | [],_,_,_,_,h|n::ns,[],_,_,_,h=>h
 |n::ns,y::r,b,m,o,h=>by
  cases y<;>simp [Gw]<;>first|omega|exact Fi (KS h)
theorem KN {s:Sh} {x:SV} {b:Bd} {m:Nat} {o:Option Nat} (h:du b m=some o):du (Se s x b) m=some o:=by
 unfold Se
 split<;>first|omega|exact KS h|exact Fi h|(unfold aGG;grind [KS])
theorem BL:∀ {l:List Sh} {cs:List SV} {b:Bd} {m:Nat} {o:Option Nat},du b m=some o->du (oD l cs b) m=some o
 :=by intro t;induction t<;>grind [oD,KN]
theorem j8 {hp:Hp}:∀ {l:List (Nat×CSh)} {b:Bd} {m:Nat} {o:Option Nat},du b m=some o->du (fb hp l b) m=some o
 | [],_,_,_,h=>h
 |(n,s)::r,b,m,o,h=>by
  cases s<;>simp [fb]
  case cells l=>
   refine j8 ?_
   grind [BL]
  all_goals exact j8 h
section
variable {d:Nat} {hp hp':Hp} (hg:Grown d hp hp')
include hg
theorem kO:∀ {l:List (Nat×CSh)} {b:Bd},(∀ q ∈ l,∀ c,du (fb hp l b) q.1=some (some c)->hp c≠none)->fb hp' l b=fb hp l b
 | [],_,_=>rfl
 |(n,s)::r,b,h=>by
  cases s<;>simp only [fb] at h⊢
  case cells l=>
   have e:(match du b n with|some (some c)=>(match hp' c with|some ⟨_,.cells vs⟩=>oD l vs b|_=>b)|_=>b)=(match du b n with|some (some c)=>(match hp c with|some ⟨_,.cells vs⟩=>oD l vs b|_=>b)|_=>b):=by
    split
    ·rename_i c hc
     have h1:=h (n,.cells l) (by simp) c (j8 (by
      grind [BL]))
     cases hq:hp c with
     |none=>grind
     |some ch=>rw [hg.mj _ _ hq]
    rfl
   exact (congrArg (fb hp' r) e).trans (kO λq hq c hc=>h q (by grind) c hc)
  all_goals exact kO (by grind)
theorem I3 {bd:Bd} {n c e:Nat} (h:Dp bd hp n c e=true):Dp bd hp' n c e=true:=by
 unfold Dp at h⊢
 split at h
 ·rw [av] at h
  have h2:=h.2
  split at h2
  ·rename_i ch hch
   rw [hg.mj _ _ hch]
   grind
  grind
 omega
theorem BN {bd:Bd}:∀ {ns:List Nat} {l:List SV},zm bd hp ns l=true->zm bd hp' ns l=true
 | [],[],_=>rfl
 | [],_::_,h|n::ns,[],h=>by cases h
 |n::ns,y::r,h=>by
  cases y<;>simp only [zm] at h⊢ <;>try grind
  simp at h⊢
  exact ⟨⟨⟨I3 hg h.1.1.1,h.1.1.2⟩,h.1.2⟩,BN h.2⟩
theorem I2 {bd:Bd} {s:Sh} {cs:List SV} (h:lB bd hp s cs=true):lB bd hp' s cs=true:=by
 unfold lB at h⊢
 grind [I3,BN]
theorem So {ok:Nat->Bool} {t:Ty} {x:SV} {ys:List t.T} (h:tW ok t hp x=some ys):tW ok t hp' x=some ys:=by
 have key:∀ {c:Nat} {f:Option Ch->Option (List t.T)},f none=none->f (hp c)=some ys->f (hp' c)=some ys:=λ{c f} h0 h=>by
  cases hq:hp c with
  |none=>grind
  |some ch=>rw [hg.mj _ _ hq,<-hq];omega
 cases x<;>simp [tW] at h⊢ <;>try omega
 case own c e=>exact key (c:=c) (f:=λo=>match o with|some ⟨ep,.row t' xs⟩=>cond (Nat.beq ep e&&ok c) (b7 t t' xs) none|some ⟨ep,.frz t' xs⟩=>cond (Nat.beq ep e) (b7 t t' xs) none|_=>none) rfl h
 case clip c e=>exact key (c:=c) (f:=λo=>match o with|some ⟨ep,.row t' xs⟩=>cond (Nat.beq ep e&&ok c) (b7 t t' xs) none|some ⟨ep,.frz t' xs⟩=>cond (Nat.beq ep e) (b7 t t' xs) none|_=>none) rfl h
 case part c e off len=>exact key (c:=c) (f:=λo=>match o with|some ⟨ep,.row t' xs⟩=>cond (Nat.beq ep e&&ok c) ((b7 t t' xs).map λl=>(l.drop off).take len) none|some ⟨ep,.frz t' xs⟩=>cond (Nat.beq ep e) ((b7 t t' xs).map λl=>(l.drop off).take len) none|_=>none) rfl h
theorem me {ok:Nat->Bool}:∀ {t:Ty} {cs:List SV} {x:t.T},kp ok hp t cs=some x->kp ok hp' t cs=some x
 |.bool,_,_,h|.u64,_,_,h|.u8,_,_,h|.int,_,_,h|.str,_,_,h|.elem,_,_,h=>h
 |.prod a b,cs,x,h=>by
  obtain ⟨h1,h2⟩:=aU h
  simp [kp,me h1,me h2,sw]
 |.arr n t,cs,x,h=>by
  simp only [kp] at h⊢
  split at h
  ·rename_i hl
   rw [if_pos hl]
   exact lM (λ_ _=>me) h
  grind
 |.list t,cs,x,h=>by
  simp only [kp] at h⊢
  split at h
  ·rename_i hp0
   rw [if_pos hp0]
   obtain ⟨y,rfl,hy⟩:=n8 h
   exact So hg hy
  grind
omit hg in
theorem H8 {a b:Bool} {x:Unit} (hab:a=true->b=true) (h:H9 a=some x):H9 b=some x:=by
 rw [hab (gO h)];rfl
theorem EL {bd:Bd} {ok:Nat->Bool} {s:Sh} {cs:List SV} {x:s.T} (h:sk bd ok hp s cs=some x):sk bd ok hp' s cs=some x:=by
 cases s<;>simp [sk] at h⊢
 case val b t=>exact me hg h
 case mix a n b=>
  obtain ⟨h1,h2⟩:=aU h
  grind [aU,me,H8,I2]
 case ife t=>grind
 all_goals exact H8 (I2 hg) h
theorem PV {bd:Bd} {ok:Nat->Bool} {s:Sh} {y:SV} {x:s.T} (h:CS bd ok hp s y=some x):CS bd ok hp' s y=some x:=by grind [CS,EL]
theorem wu {bd:Bd} {ok:Nat->Bool}:∀ {l:List Sh} {cs:List SV} {x:ShT l},li bd ok hp l cs=some x->li bd ok hp' l cs=some x
 | [],[],_,h=>h
 | [],_::_,_,h=>by cases h
 |s::r,cs,x,h=>by
  obtain ⟨h1,h2⟩:=aU (show sw (sk bd ok hp s (cs.take s.size)) (li bd ok hp r (cs.drop s.size))=some x from h)
  show sw (sk bd ok hp' s (cs.take s.size)) (li bd ok hp' r (cs.drop s.size))=some x
  rw [EL hg h1,wu h2]
  rfl
theorem wo {bd:Bd} {ok:Nat->Bool} {tm:List SV}:∀ {l:List (Nat×Sh)} {x:SlT l},uN bd ok hp tm l=some x->uN bd ok hp' tm l=some x
 | [],_,h=>h
 |c::r,x,h=>by
  obtain ⟨h1,h2⟩:=aU h
  simp only [uN,PV hg h1,wo h2]
  rfl
theorem LI {bd:Bd} {ok:Nat->Bool} {s:CSh} {b:Chunk} {x:s.T} (h:iS bd ok hp s b=some x):iS bd ok hp' s b=some x:=by
 cases s<;>cases b<;>simp [iS] at h⊢ <;>first|omega|exact wu hg h
theorem UL {bd:Bd} {ok:Nat->Bool} {n:Nat} {s:CSh} {x:s.T} (h:kl bd ok hp n s=some x):kl bd ok hp' n s=some x:=by
 unfold kl at h⊢
 split at h
 ·split at h
  ·rename_i ch hch
   rw [hg.mj _ _ hch]
   grind [LI]
  grind
 ·omega
 omega
theorem sn {bd:Bd} {ok:Nat->Bool}:∀ {l:List (Nat×CSh)} {x:FO l},eT bd ok hp l=some x->eT bd ok hp' l=some x
 | [],_,h=>h
 |c::r,x,h=>by
  obtain ⟨h1,h2⟩:=aU h
  simp [eT,UL hg h1,sn h2]
  rfl
omit hg in
theorem pC {bd:Bd} {ok:Nat->Bool}:∀ {l:List (Nat×CSh)} {x:FO l},eT bd ok hp l=some x->∀ q ∈ l,∀ c,du bd q.1=some (some c)->hp c≠none
 | [],_,_,_,hq,_,_=>by cases hq
 |c::r,x,h,q,hq,c',hb=>by
  obtain ⟨h1,h2⟩:=aU h
  rcases List.mem_cons.1 hq with he|he
  ·subst he
   unfold kl at h1
   rw [hb] at h1
   simp only at h1
   intro hn
   rw [hn] at h1
   cases h1
  ·exact pC h2 q he c' hb
theorem apP {s:Shape} (hfx:s.fixed=0) {tm:List SV} {x:s.T} (h:s.prj ⟨tm,hp⟩=some x):s.prj ⟨tm,hp'⟩=some x/\s.bd ⟨tm,hp'⟩=s.bd ⟨tm,hp⟩:=by
 unfold Shape.prj at h⊢
 dsimp only at h⊢
 cases hb:s.KT ⟨tm,hp⟩ (s.bd ⟨tm,hp⟩)&&Nat.beq tm.length s.n
 ·grind
 ·rw [hb] at h
  obtain ⟨h1,h2⟩:=aU h
  have e:s.bd ⟨tm,hp'⟩=s.bd ⟨tm,hp⟩:=kO hg (pC h2)
  grind [Shape.KT,wo,sn]
theorem NN {c:Nat} (h:hp c≠none):Zj hp' c=Zj hp c:=by
 unfold Zj
 cases hq:hp c with
 |none=>grind
 |some ch=>rw [hg.mj _ _ hq]
theorem zP {bd:Bd} {fixed:Nat}:∀ {l:List (Nat×CSh)},(∀ q ∈ l,∀ c,du bd q.1=some (some c)->hp c≠none)->dE bd hp' fixed l=dE bd hp fixed l
 | [],_=>rfl
 |c::r,h=>by
  have ih:=zP (bd:=bd) (fixed:=fixed) (l:=r) (by grind)
  grind [dE,NN]
theorem ayN {S:af} {pre:S.T->Bool} {F:S.T->OT S.Y} {args:List SV} {out:Out} (h:((S.aw pre F).f d args hp).run=some out):((S.aw pre F).f d args hp').run=some out:=by
 simp only [af.aw] at h⊢
 split at h
 ·cases h
 ·rename_i x hx
  obtain ⟨e1,e2⟩:=apP hg (s:=S.inp) rfl hx
  rw [e1]
  simp only
  rw [e2]
  obtain ⟨h1,h2⟩:=OT.aD h
  rw [h1]
  obtain ⟨oy,h3,h4⟩:=OT.run_bind h2
  have hold:∀ q ∈ S.chunks,∀ c,du (S.inp.bd ⟨args,hp⟩) q.1=some (some c)->hp c≠none:=by
   have hx':=hx
   unfold Shape.prj at hx'
   dsimp only at hx'
   cases hb:S.inp.KT ⟨args,hp⟩ (S.inp.bd ⟨args,hp⟩)&&Nat.beq args.length S.inp.n
   ·rw [hb] at hx';cases hx'
   ·rw [hb] at hx'
    obtain ⟨_,h2⟩:=aU hx'
    exact pC h2
  have hbok:∀ p ∈ S.inp.bd ⟨args,hp⟩,∃ q ∈ S.chunks,q.1=p.1:=by
   have hx':=hx
   unfold Shape.prj at hx'
   dsimp only at hx'
   cases hb:S.inp.KT ⟨args,hp⟩ (S.inp.bd ⟨args,hp⟩)&&Nat.beq args.length S.inp.n
   ·rw [hb] at hx';cases hx'
   ·rw [av] at hb
    have:=hb.1
    unfold Shape.KT at this
    simp only [av,fX,List.any_eq_true] at this
    intro p hp
    obtain ⟨q,hq,he⟩:=this.1.2 p hp
    exact ⟨q,hq,aX he⟩
  have hepN:∀ n c,du (S.inp.bd ⟨args,hp⟩) n=some (some c)->Zj hp' c=Zj hp c:=λn c hc=>by
   obtain ⟨q,hq,he⟩:=hbok _ (oF hc)
   grind [NN]
  unfold af.emit at h4
  dsimp only at h4
  obtain ⟨hend,h5⟩:=OT.aD h4
  --the names
  have hfr:fresh hp' d=fresh hp d:=jO hg
  have hnm:∀ n,S.fixed<=n\/(∃ c,du (S.inp.bd ⟨args,hp⟩) n=some (some c))->S.nm (S.inp.bd ⟨args,hp⟩) hp' (fresh hp d) n=S.nm (S.inp.bd ⟨args,hp⟩) hp (fresh hp d) n:=λn hn=>by
   unfold af.nm
   cases hb:Nat.blt n S.fixed
   ·rfl
   ·rcases hn with hn|⟨c,hn⟩
    ·have:=db hb;omega
    grind [nameOf]
  have hnmall:S.nm (S.inp.bd ⟨args,hp⟩) hp' (fresh hp d)=S.nm (S.inp.bd ⟨args,hp⟩) hp (fresh hp d):=by
   funext n
   rcases Nat.lt_or_ge n S.fixed with hn|hn
   ·refine hnm n (.inr ?_)
    have he:=hend
    unfold af.nV at he
    simp at he
    grind
   ·exact hnm n (.inl hn)
  have hend':S.nV (S.inp.bd ⟨args,hp⟩) hp' (fresh hp d) oy.1=true:=by
   have he:=hend
   unfold af.nV at he⊢
   simp only [av] at he⊢
   refine ⟨he.1,he.2.1,he.2.2.1,?_⟩
   have h6:=he.2.2.2
   simp only [fX,av,Bool.or_eq_true] at h6⊢
   intro q hq
   refine ⟨(h6 q hq).1,(h6 q hq).2.imp_right λh7=>⟨h7.1,?_⟩⟩
   have h8:=h7.2
   have hlt:=db h7.1
   cases hz:hp (fresh hp d+(q.1-S.fixed)) with
   |some ch=>rw [hz] at h8;cases h8
   |none=>
    rw [hg.free _ ?_ hz]
    ·rfl
    ·obtain ⟨k,hk1,hk2⟩:∃ k,k<=4000/\fresh hp d=(d+1)*4096+k:=by
      have:∀ (n k:Nat),n+k<=4000->∃ j,j<=4000/\eY hp d n k=(d+1)*4096+j:=by
       intro n
       induction n with
       |zero=>intro k hk;exact ⟨k,by omega,rfl⟩
       |succ n ih=>
        intro k hk
        simp only [eY]
        split
        ·exact ⟨k,by omega,rfl⟩
        ·exact ih (k+1) (by omega)
      exact this 4000 0 (by omega)
     rw [hk2]
     unfold lF
     omega
  have hem:(S.emit (S.inp.bd ⟨args,hp⟩) d hp' oy.1 oy.2).run=some out:=by
   grind [af.emit,zP]
  have hbind:∀ {α β:Type} (t:OT α) (f:α->OT β) (a:α) (b:β),t.run=some a->(f a).run=some b->(t.bind f).run=some b:=by
   intro α β t f a b h1 h2
   induction t with
   |ok a'=>cases h1;exact h2
   |br c u v hu hv=>
    cases c
    ·exact hv h1
    ·exact hu h1
   |fail=>cases h1
  exact hbind (F x) _ oy out h3 hem
end
theorem aq {S:af} {pre:S.T->Bool} {F:S.T->OT S.Y}:au (S.aw pre F):=λ_ _ _ _ _ hg h=>ayN hg h
end Sx
end
section
namespace Sx
open Go
def OT.wpR {α:Type} (t:OT α) (K:α->Prop):Prop:=
 OT.rec (motive:=λ_=>Prop) (λa=>K a) (λb _ _ x y=>Bool.rec (motive:=λ_=>Prop) y x b) False t
theorem OT.Ez {α:Type} (t:OT α) (K:α->Prop):t.wpR K=t.wp K:=by
 induction t with
 |ok b=>rfl
 |br b x y hx hy=>
  cases b
  ·exact hy
  ·exact hx
 |fail=>rfl
theorem OT.iH {α:Type} {t:OT α} {a:α} {K:α->Prop} (h:t.run=some a) (hk:K a):t.wp K:=by
 induction t with
 |ok b=>cases h;exact hk
 |br b x y hx hy=>
  cases b
  ·exact hy h
  ·exact hx h
 |fail=>cases h
def mw (fn:Func):Code:=fn.body.getD .skip
abbrev aT:=Sigma λp:SE×Shape=>p.2.T
def Po (sh:Shape) (xs:SE->Option Shape) (Q:Sum sh.T aT->Prop) (e:SE) (st:St):Prop:=match e with
 |.normal=>sh.on st λs=>Q (.inl s)
 |e=>match xs e with
  |none=>False
  |some s=>s.on st λx=>Q (.inr ⟨(e,s),x⟩)
def cx {σ ε:Type} (T:σ->OT (Sum σ ε)):Nat->σ->Option ε
 |0,_=>none
 |n+1,s=>match (T s).run with
  |some (.inl s')=>cx T n s'
  |some (.inr e)=>some e
  |none=>none
def aqU (sh:Shape) (id:Nat) (ok:sh.T->Bool) (f:sh.T->OT aT) (st:St) (K:SE->St->Prop):Prop:=
 sh.on st λs=>cond (ok s) ((f s).wp λe=>K (asN id e.1.1) (e.1.2.inj e.2)) False
section
variable {P:Program} {te:TE} {Φ:Env} (hte:kH P te) (hΦ:nW P Φ) (hany:FP P te Φ)
include hte hΦ hany
theorem axR {R₀:Ctx} {sh:Shape} (h0:Small R₀ sh.fixed) {xs:SE->Option Shape} (hxs:∀ e s,xs e=some s->Small R₀ s.fixed) (hpan:∀ v s,xs (.pan v)=some s->∃ t x,v=.iface t (.agg [.int x])) {Λ:Lam} {body:Code} (hΛ:rH P R₀ Λ body)
 {id n:Nat} {T:sh.T->OT (Sum sh.T aT)} (hT:∀ s Q,wps te Φ Λ n body (sh.inj s) (Po sh xs Q)=(T s).wpR Q):
 zI P R₀ (.block id (.loop body)) λst K=>sh.on st λs=>∃ m e,cx T m s=some e/\K (asN id e.1.1) (e.1.2.inj e.2):=by
 intro R st a w K Q hx hst hl hK
 obtain ⟨s,R',⟨m,e,hr,hk⟩,hx',hst'⟩:=Shape.xM h0 hx hst hl
 refine wp_block (Ey ?_)
 clear hl hst hx
 induction m generalizing s R' a w with
 |zero=>cases hr
 |succ m ih=>
  simp only [cx] at hr
  cases ht:(T s).run with
  |none=>rw [ht] at hr;cases hr
  |some o=>
   rw [ht] at hr
   have hw:wps te Φ Λ n body (sh.inj s) (Po sh xs (λz=>z=o)):=by
    rw [hT,OT.Ez];exact OT.iH ht rfl
   refine IP (rJ (R₀:=R₀) hte hΦ hany hΛ hx' hst' hw ⟨?_,?_,?_,?_⟩)
   ·intro R1 st1 a1 w1 hx1 hst1 hk1
    obtain ⟨s',R2,g1,g4,g5⟩:=Shape.xM h0 hx1 hst1 (hk1:sh.on st1 _)
    subst g1
    exact ih a1 w1 s' R2 hr g4 g5
   ·intro R1 st1 a1 w1 hx1 hst1 hk1
    simp only [Po] at hk1
    split at hk1
    ·exact hk1.elim
    ·rename_i sh' he
     obtain ⟨x,R2,g1,g2,g3⟩:=Shape.xM (hxs _ sh' he) hx1 hst1 hk1
     subst g1
     cases hr
     exact hK.ret R2 _ a1 w1 g2 g3 hk
   ·intro R1 st1 a1 w1 j hx1 hst1 hk1
    simp only [Po] at hk1
    split at hk1
    ·exact hk1.elim
    ·rename_i sh' he
     obtain ⟨x,R2,g1,g2,g3⟩:=Shape.xM (hxs _ sh' he) hx1 hst1 hk1
     subst g1
     cases hr
     simp only [asN] at hk
     simp only [Exit.inBlock]
     by_cases e:j=id
     ·subst e
      rw [Nat.beq_refl,aV] at hk
      simp only [if_true]
      exact hK.normal R2 _ a1 w1 g2 g3 hk
     ·have hb:Nat.beq j id=false:=by
       cases hq:Nat.beq j id
       ·rfl
       ·exact absurd (aX hq) e
      rw [hb,bo] at hk
      simp only [e,if_false]
      exact hK.exit R2 _ a1 w1 j g2 g3 hk
   ·intro R1 st1 a1 w1 sv v hx1 hst1 hv hk1
    simp only [Po] at hk1
    split at hk1
    ·exact hk1.elim
    ·rename_i sh' he
     obtain ⟨x,R2,g1,g2,g3⟩:=Shape.xM (hxs _ sh' he) hx1 hst1 hk1
     subst g1
     cases hr
     obtain ⟨t,z,rfl⟩:=hpan _ _ he
     exact hK.pan R2 _ a1 w1 _ v g2 g3 (adj hv) hk
theorem aD1 {R₀:Ctx} {sh:Shape} (h0:Small R₀ sh.fixed) {xs:SE->Option Shape} (hxs:∀ e s,xs e=some s->Small R₀ s.fixed) (hpan:∀ v s,xs (.pan v)=some s->∃ t x,v=.iface t (.agg [.int x])) {Λ:Lam} {body:Code} (hΛ:rH P R₀ Λ body)
 {id n:Nat} {T:sh.T->OT (Sum sh.T aT)} (hT:∀ s Q,wps te Φ Λ n body (sh.inj s) (Po sh xs Q)=(T s).wpR Q) {ok:sh.T->Bool} {f:sh.T->OT aT}
 (hf:∀ s,ok s=true->∃ m e,cx T m s=some e/\(f s).run=some e):zI P R₀ (.block id (.loop body)) (aqU sh id ok f):=by
 intro R st a w K Q hx hst hl hK
 refine axR hte hΦ hany h0 hxs hpan hΛ hT (id:=id) R st a w K Q hx hst ?_ hK
 unfold aqU at hl
 unfold Shape.on at hl⊢
 split at hl
 ·rename_i s hs
  cases ho:ok s
  ·rw [ho] at hl;exact hl.elim
  ·rw [ho] at hl
   obtain ⟨m,e,h1,h2⟩:=hf s ho
   obtain ⟨e',h3,h4⟩:=OT.GO hl
   rw [h2] at h3
   cases h3
   rw [hs]
   exact ⟨m,e,h1,h4⟩
 ·exact hl.elim
def fnK (S:af) (sel:SV->Option aH) (Q:S.Y->Prop) (v:SV) (hp:Hp):Prop:=match sel v with
 |some o=>match (o.shape S.fixed).prj ⟨apj o.rs.length v,hp⟩ with
  |some y=>Q ⟨o,y⟩
  |none=>False
 |none=>False
def acQ (S:af):List aH->(S.Y->Prop)->SV->Hp->Prop
 | [],_,_,_=>False
 |o::r,Q,v,hp=>match (o.shape S.fixed).prj ⟨apj o.rs.length v,hp⟩ with
  |some y=>Q ⟨o,y⟩
  |none=>acQ S r Q v hp
omit hte hΦ hany in
theorem tu {S:af} {Q:S.Y->Prop} {v:SV} {hp:Hp}:∀ {outs:List aH},acQ S outs Q v hp->∃ o ∈ outs,∃ y,(o.shape S.fixed).prj ⟨apj o.rs.length v,hp⟩=some y/\Q ⟨o,y⟩
 | [],h=>h.elim
 |o::r,h=>by
  simp only [acQ] at h
  split at h
  ·rename_i y hy
   exact ⟨o,List.mem_cons_self ..,y,hy,h⟩
  ·obtain ⟨o',h1,h2⟩:=tu h
   exact ⟨o',List.mem_cons_of_mem _ h1,h2⟩
theorem ayK {f:FuncId} {fn:Func} {c:Code} (hf:P.funcs[f]? =some fn) (hb:fn.body=some c) (hname:(fn.name== "runtime.NumGoroutine")=false) {S:af} {k:Nat} (hk:S.chunks.all (λc=>Nat.blt c.1 k&& !c.2.iz)=true) {Λ:Lam}
 (hΛ:∀ R,Small R k->rH P R Λ c) {n:Nat} {outs:List aH} (hsel:(outs.all λo=> !o.pan)=true) {pre:S.T->Bool} {F T:S.T->OT S.Y}
 (h:∀ x Q,wpf te Φ Λ n fn (S.inp.inj x).tm (S.inp.inj x).hp (acQ S outs Q) (λ_ _=>False)=(T x).wpR Q)
 (hF:∀ x oy,pre x=true->(F x).run=some oy->(T x).run=some oy):aa P f (S.aw pre F):=by
 refine ayM hte hΦ hany hf hb hname hk hΛ (n:=n) λx oy hp hr=>⟨acQ S outs (λz=>z=oy),λ_ _=>False,?_,λv hp hq=> ?_,λ_ _ hq=>hq.elim⟩
 ·rw [h,OT.Ez];exact OT.iH (hF x oy hp hr) rfl
 ·obtain ⟨o,ho,y,hy,hQ⟩:=tu hq
  subst hQ
  exact ⟨by have:=List.all_eq_true.1 hsel o ho;simpa using this,hy⟩
end
end Sx
end
section
namespace Sx
open Go
def zeroCells:Ty->List Value
 |.bool=> [.bool false]
 |.u64=> [ee 0]
 |.u8=> [vu8 0]
 |.int=> [.int .i64 0]
 |.str=> [.string ⟨#[]⟩]
 |.elem=> [ee 0,ee 0,ee 0,ee 0]
 |.prod a b=>zeroCells a++zeroCells b
 |.arr n t=>(List.replicate n (zeroCells t)).flatten
 |.list _=> [.slice none 0 0]
theorem cI:∀ t:Ty,(zeroCells t).length=t.size
 |.bool=>rfl
 |.u64=>rfl
 |.u8=>rfl
 |.int=>rfl
 |.str=>rfl
 |.elem=>rfl
 |.prod a b=>by simp only [zeroCells,bR,cI a,cI b,Ty.size]
 |.arr n t=>by simp [zeroCells,cI t,Ty.size]
 |.list _=>rfl
theorem JT {c:List Value} {m:Nat} (hc:c.length=m):∀ (n i:Nat),i<n->seg (List.replicate n c).flatten (i*m) m=c
 |0,_,h=>by omega
 |n+1,0,_=>by
  simp only [seg,List.replicate_succ,List.flatten_cons,Nat.zero_mul,List.drop_zero,List.take_append,hc,Nat.sub_self,List.take_zero,List.append_nil]
  rw [<-hc,List.take_length]
 |n+1,i+1,h=>by
  have ih:=JT hc n i (by omega)
  simp only [seg] at ih⊢
  rw [List.replicate_succ,List.flatten_cons]
  have:(i+1)*m=c.length+i*m:=by rw [hc,Nat.add_mul];omega
  rw [this,List.drop_append]
  simp only [Nat.add_sub_cancel_left]
  rw [List.drop_eq_nil_of_le (by omega),List.nil_append,ih]
theorem FZ {F:Nat->Option Obj}:∀ t:Ty,Rep F t t.d (zeroCells t)
 |.bool=>rfl
 |.u64=>rfl
 |.u8=>rfl
 |.int=>⟨rfl,by decide⟩
 |.str=>⟨rfl,by simp [Ty.d]⟩
 |.elem=>rfl
 |.prod a b=>by
  refine ⟨by simp only [zeroCells,bR,cI],?_,?_⟩
  ·have:(zeroCells (.prod a b)).take a.size=zeroCells a:=by
    simp only [zeroCells]
    rw [<-cI a,List.take_left]
   rw [this];exact FZ a
  ·have:(zeroCells (.prod a b)).drop a.size=zeroCells b:=by
    simp only [zeroCells]
    rw [<-cI a,List.drop_left]
   rw [this];exact FZ b
 |.arr n t=>by
  refine ⟨cI _,by simp [Ty.d],λi hi=> ?_⟩
  have h1:(Ty.d (.arr n t)).getD i t.d=t.d:=by
   simp [Ty.d,ju,List.getElem?_replicate,hi]
  rw [h1]
  simp only [zeroCells]
  rw [JT (cI t) n i hi]
  exact FZ t
 |.list t=>⟨by simp [Ty.d],none,0,rfl,by simp [Ty.d],.inl rfl⟩
def aEA (P:Program) (T:TypeId) (d:TypeDesc):TD->Bool
 |.struct fs=>match d with
  |.struct fields=>decide (fields.toList.map (λf=>(f.offset,f.type))=fs)&&fields.toList.all (λf=> !decide (f.name= "_"))&& !P.stoodInHeld T&&
   (fields.toList.mapM (λf=>(P.info? f.type).map λi=>(f.offset,i.size))).isSome
  |_=>false
 |.array n e=>match d with
  |.array n' e'=>Nat.beq n n'&&Nat.beq e e'
  |_=>false
 |.slice e=>match d with
  |.slice e'=>Nat.beq e e'
  |_=>false
 |.int k=>match d with
  |.int k'=>decide (k'=k)
  |_=>false
 |.bool=>match d with
  |.bool=>true
  |_=>false
 |.str=>match d with
  |.string=>true
  |_=>false
 |.ptr ms=>match d with
  |.pointer _=>match P.info? T with
   |some i=>ms.all λnf=>match i.methods.find? (λq=>q.name==nf.1) with
    |some m=>m.path.toList.isEmpty&&(match m.func with
     |some (f,b)=>b&&Nat.beq f nf.2
     |none=>false)
    |none=>false
   |none=>false
  |_=>false
 |.iface=>match d with
  |.interface _=>true
  |_=>false
 |.other=>match d with
  |.struct _=>false
  |.array .. =>false
  |_=>true
theorem aCK {P:Program} {T:TypeId} {ti:TI} (h1:(P.info? T).isSome=true) (h4:((P.info? T).get h1).zero.isSome=true) (h10:(P.underlying T).isSome=true)
 (hs:Nat.beq ((P.info? T).get h1).size ti.size=true) (hb:Nat.beq ((P.info? T).get h1).bytes ti.bytes=true)
 (hz:(((P.info? T).get h1).zero.get h4).cells.toList.map EP=ti.zero) (hc:((((P.info? T).get h1).zero.get h4).cells.toList.all Value.oneCell')=true)
 (hn:Nat.beq (((P.info? T).get h1).zero.get h4).cells.size ti.size=true) (h8:Nat.ble ti.size 16777216=true) (h9:(ti.desc.agg||Nat.beq ti.size 1)=true)
 (hd:aEA P T ((P.underlying T).get h10) ti.desc=true)
 (ht:match ti.ty with
  |none=>True
  |some t=>Nat.beq t.size ti.size=true/\(((P.info? T).get h1).zero.get h4).cells.toList=zeroCells t/\(!ti.desc.agg|| !P.eqGuardType P.depth T)=true):eO P T ti:=by
 have e1:P.info? T=some ((P.info? T).get h1):=(Option.some_get h1).symm
 have e4:((P.info? T).get h1).zero=some (((P.info? T).get h1).zero.get h4):=(Option.some_get h4).symm
 refine ⟨⟨_,_,e1,aX hs,aX hb,e4,hz,aX hn,λu hu=>List.all_eq_true.1 hc u hu⟩,Nat.le_of_ble_eq_true h8,λha=> ?_,⟨_,(Option.some_get h10).symm,?_⟩,λt hty=> ?_⟩
 ·rw [ha,Bool.false_or] at h9
  exact aX h9
 ·generalize (P.underlying T).get h10=d at hd
  cases hdd:ti.desc<;>rw [hdd] at hd<;>simp only [aEA] at hd<;>(try dsimp only)
  case struct fs=>
   split at hd
   ·rename_i fields
    simp only [av,decide_eq_true_eq,fX,Bool.not_eq_true',decide_eq_false_iff_not] at hd
    exact ⟨fields,rfl,hd.1.1.1,hd.1.1.2,hd.1.2,hd.2⟩
   ·cases hd
  case array n e=>
   split at hd
   ·rw [av] at hd
    rw [aX hd.1,aX hd.2]
   ·cases hd
  case slice e=>
   split at hd
   ·rw [aX hd]
   ·cases hd
  case int k=>
   split at hd
   ·rw [bh hd]
   ·cases hd
  case bool=>
   split at hd
   ·rfl
   ·cases hd
  case str=>
   split at hd
   ·rfl
   ·cases hd
  case ptr ms=>
   split at hd
   ·refine ⟨⟨_,rfl⟩,?_⟩
    split at hd
    ·rename_i i hi
     intro nf hnf
     have hq:=List.all_eq_true.1 hd nf hnf
     split at hq
     ·rename_i m hm
      rw [av] at hq
      refine ⟨i,m,hi,hm,?_,?_⟩
      ·apply Array.ext'
       simpa using hq.1
      ·have h2:=hq.2
       split at h2
       ·rename_i f b hf
        rw [av] at h2
        rw [hf,aX h2.2,h2.1]
       ·cases h2
     ·cases hq
    ·cases hd
   ·cases hd
  case iface=>
   split at hd
   ·exact ⟨_,rfl⟩
   ·cases hd
  case other=>
   cases d<;>first|trivial|(cases hd;done)
 ·rw [hty] at ht
  obtain ⟨t1,t2,t3⟩:=ht
  refine ⟨aX t1,λF z hz'=> ?_,λha=> ?_⟩
  ·rw [e1] at hz'
   simp only [Option.bind_some] at hz'
   rw [e4] at hz'
   cases hz'
   rw [t2]
   exact FZ t
  ·rw [ha,Bool.not_true,Bool.false_or,Bool.not_eq_true'] at t3
   exact t3
def aFG:TE:=λ_=>none
def bq (T:TypeId) (ti:TI) (te:TE):TE:=λx=>cond (Nat.beq x T) (some ti) (te x)
theorem awQ {P:Program}:kH P aFG:=λ_ _ h=>by cases h
theorem aF {P:Program} {T:TypeId} {ti:TI} {te:TE} (h:eO P T ti) (ht:kH P te):kH P (bq T ti te):=λx t hx=>by
 unfold bq at hx
 cases hb:Nat.beq x T
 ·rw [hb] at hx;exact ht x t hx
 ·rw [hb] at hx
  cases hx
  rw [aX hb]
  exact h
def ahq:Env:=λ_=>none
def ap (f:FuncId) (s:bi) (Φ:Env):Env:=λx=>cond (Nat.beq x f) (some s) (Φ x)
theorem W5 {P:Program}:nW P ahq:=λ_ _ h=>by cases h
theorem NO {P:Program} {f:FuncId} {s:bi} {Φ:Env} (h:aa P f s) (hΦ:nW P Φ):nW P (ap f s Φ):=λx t hx=>by
 unfold ap at hx
 cases hb:Nat.beq x f
 ·rw [hb] at hx;exact hΦ x t hx
 ·rw [hb] at hx
  cases hx
  rw [aX hb]
  exact h
theorem J5:nX ahq:=λ_ _ h=>by cases h
theorem Fb {f:FuncId} {s:bi} {Φ:Env} (h:au s) (hΦ:nX Φ):nX (ap f s Φ):=λx t hx=>by
 unfold ap at hx
 cases hb:Nat.beq x f
 ·rw [hb] at hx;exact hΦ x t hx
 ·rw [hb] at hx
  cases hx
  exact h
end Sx
end
section
namespace Sx
open Go
def ax0 (t:TypeId):SV->Bool
 |.iface t' (.agg [.int _])=>Nat.beq t t'
 |_=>false
def avU (l:List (Nat×Shape)) (r:Option Shape) (p:Option (TypeId×Shape):=none):SE->Option Shape
 |.exit n=>(l.find? λp=>Nat.beq p.1 n).map (·.2)
 |.ret=>r
 |.pan v=>match p with
  |some q=>cond (ax0 q.1 v) (some q.2) none
  |none=>none
 |.normal=>none
theorem ajx {l:List (Nat×Shape)} {r:Option Shape} {p:Option (TypeId×Shape)} {k:Nat} {R:Ctx} (hl:((l.all λp=>Nat.beq p.2.fixed k)&&(r.all λs=>Nat.beq s.fixed k)&&p.all λq=>Nat.beq q.2.fixed k)=true) (hR:Small R k):
 ∀ e s,avU l r p e=some s->Small R s.fixed:=by
 intro e s h
 rw [av,av] at hl
 obtain ⟨⟨hl,hr⟩,hp⟩:=hl
 cases e with
 |exit n=>
  simp only [avU] at h
  cases hf:l.find? λp=>Nat.beq p.1 n with
  |none=>rw [hf] at h;cases h
  |some p=>
   rw [hf] at h
   cases h
   rw [aX (List.all_eq_true.1 hl p (List.mem_of_find?_eq_some hf))]
   exact hR
 |ret=>
  simp only [avU] at h
  subst h
  have e:s.fixed=k:=aX (by simpa using hr)
  rw [e]
  exact hR
 |normal=>cases h
 |pan v=>
  simp only [avU] at h
  split at h
  ·rename_i q
   cases hq:ax0 q.1 v
   ·rw [hq] at h;cases h
   ·rw [hq] at h
    cases h
    have e:q.2.fixed=k:=aX (by simpa using hp)
    rw [e]
    exact hR
  ·cases h
theorem avT {l:List (Nat×Shape)} {r:Option Shape} {p:Option (TypeId×Shape)} (v:SV) (s:Shape) (h:avU l r p (.pan v)=some s):∃ t x,v=.iface t (.agg [.int x]):=by
 simp only [avU] at h
 split at h
 ·rename_i q
  cases hq:ax0 q.1 v
  ·rw [hq] at h;cases h
  ·unfold ax0 at hq
   split at hq
   ·exact ⟨_,_,rfl⟩
   ·cases hq
 ·cases h
section
variable {σ ε:Type} {T:σ->OT (Sum σ ε)}
theorem aS {s s':σ} {m:Nat} {e:ε} (h:(T s).run=some (.inl s')) (h2:cx T m s'=some e):cx T (m+1) s=some e:=by
 simp only [cx,h];exact h2
theorem aO {s:σ} {e:ε} (h:(T s).run=some (.inr e)):cx T 1 s=some e:=by
 simp only [cx,h]
theorem IK (st:Nat->σ) (n:Nat) {e:ε} (h:∀ k,k<n->(T (st k)).run=some (.inl (st (k+1)))) (hn:(T (st n)).run=some (.inr e)):∀ j k,k+j=n->cx T (j+1) (st k)=some e
 |0,k,hk=>by
  have:k=n:=by omega
  subst this
  exact aO hn
 |j+1,k,hk=>aS (h k (by omega)) (IK st n h hn j (k+1) (by omega))
theorem IL (st:Nat->σ) (n:Nat) {e:ε} (h:∀ k,k<n->(T (st k)).run=some (.inl (st (k+1)))) (hn:(T (st n)).run=some (.inr e)) (k:Nat) (hk:k<=n):∃ m,cx T m (st k)=some e:=
 ⟨n-k+1,IK st n h hn (n-k) k (by omega)⟩
def upto {β:Type} (f:Nat->β->β) (b:β):Nat->β
 |0=>b
 |k+1=>f k (upto f b k)
theorem aW {β:Type} (mk:Nat->β->σ) (step:Nat->β->β) (fin:β->ε) (n:Nat) (b0:β) (P:Nat->β->Prop) (h0:P 0 b0)
 (hs:∀ k b,k<n->P k b->(T (mk k b)).run=some (.inl (mk (k+1) (step k b)))/\P (k+1) (step k b))
 (he:∀ b,P n b->(T (mk n b)).run=some (.inr (fin b))):(∃ m,cx T m (mk 0 b0)=some (fin (upto step b0 n)))/\P n (upto step b0 n):=by
 have hP:∀ k,k<=n->P k (upto step b0 k):=by
  intro k
  induction k with
  |zero=>exact λ_=>h0
  |succ k ih=>exact λhk=>(hs k _ (by omega) (ih (by omega))).2
 refine ⟨?_,hP n (Nat.le_refl _)⟩
 exact IL (λk=>mk k (upto step b0 k)) n (λk hk=>(hs k _ hk (hP k (by omega))).1) (he _ (hP n (Nat.le_refl _))) 0 (Nat.zero_le _)
end
def tab {α:Type} (x:List α) (n:Nat) (d:α):List α:=(List.range n).map λi=>x.getD i d
theorem Ab {α:Type} {x:List α} {n:Nat} {d:α} (h:x.length=n):tab x n d=x:=by
 apply List.ext_getElem
 ·simp [tab,h]
 ·intro i h1 h2
  simp [tab,ju,h2]
def lay {α:Type} (x y:List α) (n:Nat) (d:α):List α:=(List.range n).foldl (λa i=>a.set i (y.getD i d)) x
theorem og {α:Type} {x y:List α} {d:α}:∀ n,(lay x y n d).length=x.length
 |0=>rfl
 |n+1=>by
  have:=og (x:=x) (y:=y) (d:=d) n
  simp only [lay,List.range_succ,List.foldl_append,List.foldl_cons,List.foldl_nil,dm] at this⊢
  exact this
theorem aqX {α:Type} {x y:List α} {d:α}:∀ n i,n<=x.length->i<x.length->(lay x y n d)[i]? =if i<n then some (y.getD i d) else x[i]?
 |0,i,_,_=>by simp [lay]
 |n+1,i,h,hi=>by
  have ih:=aqX (x:=x) (y:=y) (d:=d) n i (by omega) hi
  have hl:=og (x:=x) (y:=y) (d:=d) n
  simp only [lay] at ih hl
  simp only [lay,List.range_succ,List.foldl_append,List.foldl_cons,List.foldl_nil]
  by_cases e:n=i
  ·subst e
   rw [List.getElem?_set_self (by omega),if_pos (by omega)]
  ·rw [List.getElem?_set_ne e,ih]
   by_cases h1:i<n
   ·rw [if_pos h1,if_pos (by omega)]
   ·rw [if_neg h1,if_neg (by omega)]
theorem Vt {α:Type} {x y:List α} {n:Nat} {d:α} (hx:x.length=n) (hy:y.length=n):lay x y n d=y:=by
 apply List.ext_getElem?
 intro i
 by_cases hi:i<n
 ·rw [aqX n i (by omega) (by omega),if_pos hi,ju,ui (by omega)]
  rfl
 ·rw [List.getElem?_eq_none (by rw [og];omega),List.getElem?_eq_none (by omega)]
theorem OT.gb {α:Type} {a:α}:(OT.ok a).run=some a:=rfl
theorem OT.ak {α:Type} {b:Bool} {x y:OT α} (h:b=true):(OT.br b x y).run=x.run:=by rw [h];rfl
theorem OT.al {α:Type} {b:Bool} {x y:OT α} (h:b=false):(OT.br b x y).run=y.run:=by rw [h];rfl
def gd {α:Type}:List Bool->OT α->OT α
 | [],x=>x
 |b::r,x=>.br b (gd r x) .fail
theorem ae {α:Type} {x:OT α}:∀ {bs:List Bool},bs.all (λb=>b)=true->(gd bs x).run=x.run
 | [],_=>rfl
 |b::r,h=>by
  rw [ax,av] at h
  exact (OT.ak h.1).trans (ae h.2)
theorem aL {n:Int} (h: -9223372036854775808<=n/\n<=9223372036854775807):inR n=true:=by simp [inR,h.1,h.2]
theorem aR {k:Int} {n:Nat} (h:0<=k/\k<(n:Int)):inB k n=true:=by simp [inB,h.1,h.2]
theorem VR {k:Int} {n:Nat} (h:inB k n=true):k.toNat<n:=by
 simp only [inB,av,decide_eq_true_eq] at h
 omega
theorem cA {l h:Int} {n:Nat} (hh:0<=l/\l<=h/\h<=(n:Int)):cj l h n=true:=by simp [cj,hh.1,hh.2.1,hh.2.2]
end Sx
end
section
namespace Sx
open Go Go.RowKit
def iM (w:World):Ctx:=⟨λb=>w.heap[b]?,⟨λ_=>none,w,[]⟩,λ_=>none,aqi⟩
theorem awU (w:World):cu (iM w) w:=
 ⟨λ_ _ h=>h,(λ_ _ h=>by cases h),(λc ch h=>by cases h),(λc c' ch ch' L L' h=>by cases h),λ_ _ _=>rfl,⟨rfl,rfl,rfl⟩⟩
theorem Z9 {w w':World} {R':Ctx} {u:List (Nat×Ch)} (h:dD (iM w) R' w' u):Below w.heap.size w w':=by
 have he:=h.mem.env
 rw [h.ext.U] at he
 have hb:∀ k,k<w.heap.size->w'.heap[k]? =w.heap[k]? :=λk hk=>by
  have h1:w.heap[k]? =some w.heap[k]:=by simp [hk]
  rw [h.mem.F k _ (h.ext.F k _ h1),h1]
 refine ⟨he.1,he.2.2,he.2.1,?_,hb⟩
 rcases Nat.lt_or_ge w'.heap.size w.heap.size with hl|hl
 ·have:=hb _ hl
  simp [hl] at this
 ·exact hl
theorem aqZ {P:Program} {f:FuncId} {s:bi} (h:aa P f s) (hfn:∃ fn,P.funcs[f]? =some fn/\(fn.name== "runtime.NumGoroutine")=false/\fn.body.isNone=false) {w:World} {args:List SV} {vs:List Value} {u:List (Nat×Ch)} (hr:SV.bx (iM w) args vs)
 (ht:(s.f 0 args aqi).run=some (.ret ⟨.bool true,u⟩)):Calls P f vs.toArray w λe w'=>e=.returned (.bool true)/\Below w.heap.size w w':=by
 have hc:Calls P f vs.toArray w (ik (iM w) (.ret ⟨.bool true,u⟩)):=by
  rcases h.calls (iM w) w 0 args vs _ (awU w) hr ht with ⟨_,_,_,_,hc⟩|⟨v,w',hv,_⟩
  ·exact hc
  ·exfalso
   obtain ⟨fn,f1,f2,f3⟩:=hfn
   have f2':¬fn.name= "runtime.NumGoroutine" :=by simpa using f2
   have f3':¬fn.body=none:=λe=>by rw [e] at f3;simp at f3
   simp [callFunc,f1,f2',f3'] at hv
 refine hc.mono λe w' hp=> ?_
 obtain ⟨v,R',rfl,ha,hv⟩:=hp
 simp only [SV.rel] at hv
 subst hv
 exact ⟨rfl,Z9 ha⟩
end Sx
end
section
namespace Sx
open Go Go.RowKit
def TX (te:TE) (T:TypeId) (n:Nat):Bool:=match te T with
 |some ei=>Nat.beq ei.size n
 |none=>false
def CU (go:TypeId->Ty->Bool) (te:TE):Nat->List (Nat×TypeId)->Ty->Bool
 |o,[(p,T)],y=>Nat.beq o p&&(TX te T y.size&&go T y)
 |o,(p,T)::q::r,.prod a b=>Nat.beq o p&&(TX te T a.size&&(go T a&&CU go te (o+a.size) (q::r) b))
 |_,_,_=>false
def Ax (te:TE):Nat->TypeId->Ty->Bool
 |0,_,_=>false
 |n+1,T,y=>match te T with
  |none=>false
  |some ti=>match ti.desc,y with
   |.bool,.bool=>true
   |.int .u64,.u64=>true
   |.int .u8,.u8=>true
   |.int .i64,.int=>true
   |.str,.str=>true
   |.array m e,.elem=>(match te e with
    |some ei=>(match ei.desc with|.int .u64=>true|_=>false)&&Nat.beq ei.size 1
    |none=>false)&&(Nat.beq m 4&&Nat.beq ti.size 4)
   |.array m e,.arr k t=>Nat.beq m k&&(TX te e t.size&&(Nat.beq ti.size (k*t.size)&&Ax te n e t))
   |.slice e,.list t=>(match te e with
    |some ei=>Nat.beq ei.size t.size&&(Nat.blt 0 ei.size&&Nat.blt 0 ei.bytes)
    |none=>false)&&Ax te n e t
   |.struct fs,y=>Nat.beq ti.size y.size&&CU (Ax te n) te 0 fs y
   |_,_=>false
theorem IG {α β:Type} {f:α->Option β}:∀ {l:List α} {ys:List β},l.mapM f=some ys->ys.length=l.length/\∀ (i:Nat) (h:i<l.length) (h':i<ys.length),f l[i]=some ys[i]
 | [],ys,h=>by grind
 |x::l,ys,h=>by
  simp [Option.bind_eq_some_iff] at h
  obtain ⟨y,h1,r,h2,rfl⟩:=h
  obtain ⟨h3,h4⟩:=IG h2
  grind
theorem yQ {α:Type} {d:α} {Q:Nat->α->Prop}:∀ (n:Nat),(∀ i,i<n->∃ x,Q i x)->∃ l:List α,l.length=n/\∀ i,i<n->Q i (l.getD i d)
 |0,_=>by simp
 |n+1,h=>by
  obtain ⟨l,h1,h2⟩:=yQ n λi hi=>h i (by omega)
  obtain ⟨x,hx⟩:=h n (by omega)
  refine ⟨l++ [x],by grind,λi hi=> ?_⟩
  rcases Nat.lt_or_ge i n with hi'|hi'
  ·have:=h2 i hi'
   rwa [ju,List.getElem?_append_left (by omega),<-ju]
  grind
theorem RS {w:World} {a:Addr} {n:Nat} {cs:List Value} (hn:0<n) (h:w.cells? 0 a n=some cs):
 ∃ arr E fz,w.heap[a.block]? =some (.cells arr E fz)/\a.spot=none/\a.off+n<=arr.size/\cs=seg arr.toList a.off n:=by
 unfold World.cells? at h
 rw [if_pos (Nat.zero_le _)] at h
 obtain ⟨h1,h2⟩:=IG h
 rw [List.length_range] at h1
 have hat:∀ i (hi:i<n),w.cell? (a.add i)=some (cs[i]'(by omega)):=λi hi=>by
  have:=h2 i (by simpa using hi) (by omega)
  simpa using this
 have h0:=hat 0 hn
 have e0:a.add 0=a:=rfl
 rw [e0] at h0
 unfold World.cell? at h0
 split at h0
 ·rename_i arr E fz hb
  split at h0
  ·cases h0
  ·rename_i hs
   have hs':a.spot=none:=by simpa using hs
   have hget:∀ i (hi:i<n),arr[a.off+i]? =some (cs[i]'(by omega)):=λi hi=>by
    have:=hat i hi
    unfold World.cell? Addr.add at this
    by_cases hi0:i=0
    ·subst hi0
     simpa [hb,hs'] using this
    ·rw [if_neg hi0] at this
     simpa [hb] using this
   have hle:a.off+n<=arr.size:=by
    have:=(Array.getElem?_eq_some_iff.1 (hget (n-1) (by omega))).1
    omega
   refine ⟨arr,E,fz,hb,hs',hle,?_⟩
   apply List.ext_getElem
   ·rw [gI (by simpa using hle)];exact h1
   ·intro i hi hi'
    obtain ⟨hlt,he⟩:=Array.getElem?_eq_some_iff.1 (hget i (by omega))
    simp only [seg,List.getElem_take,List.getElem_drop,Array.getElem_toList]
    exact he.symm
 ·cases h0
section
variable {H:Type} {enc:TypeId×Value->H} {P:Program} {te:TE} (hte:kH P te) {w:World} {sp:Nat->Bool}
abbrev Rc (w:World):Nat->Option Obj:=λb=>w.heap[b]?
include hte
theorem jU {T:TypeId} {ti:TI} (h:te T=some ti):P.cellsOf T=ti.size:=by
 obtain ⟨i,z,h1,h2,_⟩:=(hte T ti h).aFj
 grind [Program.cellsOf]
theorem ani {T:TypeId} {ti:TI} (h:te T=some ti):P.bytesOf T=ti.bytes:=by
 obtain ⟨i,z,h1,_,h2,_⟩:=(hte T ti h).aFj
 grind [Program.bytesOf]
omit hte in
theorem xl {T:TypeId} {n:Nat} (h:TX te T n=true):∃ ti,te T=some ti/\ti.size=n:=by
 unfold TX at h
 split at h
 ·rename_i ei he
  exact ⟨ei,he,aX h⟩
 ·cases h
omit hte in
theorem nL {e:TypeId}:∀ {l:List (DataW H)} {d:DataW H},d ∈ l->∀ n ∈ d.weights P e,n ∈ DataW.weightsAll P e l
 |x::l,d,h,n,hn=>by
  simp only [DataW.weightsAll,List.mem_append]
  rcases List.mem_cons.1 h with rfl|h
  ·exact .inl hn
  ·exact .inr (nL h n hn)
theorem NF {go:TypeId->Ty->Bool} {fuel:Nat} {cs:List Value}
 (hgo:∀ T y c d ps,go T y=true->c.length=y.size->DataW.trod enc P w 0 sp true fuel T c=some (d,ps)->(∀ n ∈ d.weights P T,n<=reachBytes)->∃ x,Rep (Rc w) y x c):
 ∀ (fl:List Field) (o:Nat) (y:Ty) (xs:List (DataW H×List MemPlace)),CU go te o (fl.map λf=>(f.offset,f.type)) y=true->o+y.size=cs.length->
  fl.mapM (λf=>DataW.trod enc P w 0 sp true fuel f.type ((cs.drop f.offset).take (P.cellsOf f.type)))=some xs->
  (∀ n ∈ DataW.weightsEach P (fl.map (·.type)) (xs.map (·.1)),n<=reachBytes)->∃ x,Rep (Rc w) y x (cs.drop o)
 | [],o,y,xs,h,_,_,_=>by simp [CU] at h
 | [f],o,y,xs,h,hl,hm,hw=>by
  simp only [List.map_cons,List.map_nil,CU,av] at h
  obtain ⟨h1,h2,h3⟩:=h
  have h1:=aX h1
  obtain ⟨ti,ht,hs⟩:=xl h2
  simp only [List.mapM_cons,List.mapM_nil,Option.bind_eq_bind,Option.bind_eq_some_iff,Option.pure_def,Option.some.injEq] at hm
  grind [jU,List.take_of_length_le,DataW.weightsEach]
 |f::g::r,o,y,xs,h,hl,hm,hw=>by
  cases y<;>simp only [List.map_cons,CU,av] at h<;>try (cases h;done)
  rename_i a b
  obtain ⟨h1,h2,h3,h4⟩:=h
  have h1:=aX h1
  obtain ⟨ti,ht,hs⟩:=xl h2
  rw [List.mapM_cons] at hm
  simp only [Option.bind_eq_bind,Option.bind_eq_some_iff,Option.pure_def,Option.some.injEq] at hm
  obtain ⟨⟨d,ps⟩,e1,q,e2,rfl⟩:=hm
  rw [jU hte ht,hs,<-h1] at e1
  simp only [Ty.size] at hl
  obtain ⟨x1,k1⟩:=hgo _ _ _ _ _ h3 (by simp;omega) e1 λn hn=>hw n (by simp only [List.map_cons,DataW.weightsEach,List.mem_append];exact .inl hn)
  obtain ⟨x2,k2⟩:=NF hgo (g::r) (o+a.size) b q h4 (by omega) e2 λn hn=>hw n (by grind [DataW.weightsEach])
  refine ⟨(x1,x2),?_⟩
  grind [Rep,List.drop_drop]
theorem aup {go:TypeId->Ty->Bool} {fuel:Nat} {cs:List Value} {e:TypeId} {t:Ty} {ei:TI} (he:te e=some ei) (hs:ei.size=t.size)
 (hgo:∀ c d ps,c.length=t.size->DataW.trod enc P w 0 sp true fuel e c=some (d,ps)->(∀ n ∈ d.weights P e,n<=reachBytes)->∃ x,Rep (Rc w) t x c) {m:Nat} (hl:cs.length=m*t.size) {xs:List (DataW H×List MemPlace)}
 (hm:((List.range m).mapM λi=>DataW.trod enc P w 0 sp true fuel e ((cs.drop (i*P.cellsOf e)).take (P.cellsOf e)))=some xs)
 (hw:∀ n ∈ DataW.weightsAll P e (xs.map (·.1)),n<=reachBytes):∀ i,i<m->∃ x,Rep (Rc w) t x (seg cs (i*t.size) t.size):=λi hi=>by
 obtain ⟨h1,h2⟩:=IG hm
 rw [List.length_range] at h1
 have:=h2 i (by grind) (by omega)
 rw [List.getElem_range,jU hte he,hs] at this
 have hle:(i+1)*t.size<=m*t.size:=cf _ hi
 rw [Nat.succ_mul] at hle
 refine hgo _ (xs[i]'(by omega)).1 (xs[i]'(by omega)).2 (gI (by omega)) this λn hn=>hw n (nL (by grind) n hn)
omit hte in
theorem aCC {fuel:Nat} {e:TypeId} {c:Value} {d:DataW H} {ps:List MemPlace} (hu:P.underlying e=some (.int .u64)) (hr:DataW.trod enc P w 0 sp true fuel e [c]=some (d,ps)):∃ x:UInt64,c=ee x:=by
 cases fuel with
 |zero=>simp [DataW.trod] at hr
 |succ fuel=>
  simp only [DataW.trod,hu] at hr
  cases c<;>simp only at hr<;>try (cases hr;done)
  rename_i k' n
  split at hr
  ·rename_i hk
   obtain ⟨rfl,hwf⟩:=hk
   have:=bounds_u64 hwf
   refine ⟨UInt64.ofNat n.toNat,?_⟩
   simp only [ee,dg]
   congr 1
   omega
  ·cases hr
theorem zV:∀ (k fuel:Nat) (T:TypeId) (y:Ty) (cs:List Value) (d:DataW H) (ps:List MemPlace),Ax te k T y=true->cs.length=y.size->DataW.trod enc P w 0 sp true fuel T cs=some (d,ps)->
 (∀ n ∈ d.weights P T,n<=reachBytes)->∃ x,Rep (Rc w) y x cs
 |0,_,_,_,_,_,_,h,_,_,_=>by simp [Ax] at h
 |k+1,0,_,_,_,_,_,_,_,h,_=>by simp [DataW.trod] at h
 |k+1,fuel+1,T,y,cs,d,ps,h,hl,hr,hw=>by
  simp only [Ax] at h
  split at h
  ·cases h
  ·rename_i ti hT
   obtain ⟨ds,hu,hd⟩:=(hte T ti hT).desc
   have hcells:=jU hte hT
   simp only [DataW.trod,hu] at hr
   split at h
   ·--bool
    rename_i he
    rw [he] at hd
    simp only at hd
    subst hd
    match cs,hl with
    | [c],hl1=>
     cases c<;>simp only [Option.some.injEq] at hr<;>try (cases hr;done)
     exact ⟨_,rfl⟩
   ·rename_i he
    rw [he] at hd
    simp only at hd
    subst hd
    match cs,hl with
    | [c],hl1=>
     cases c<;>simp only at hr<;>try (cases hr;done)
     rename_i k' n
     split at hr
     ·rename_i hk
      obtain ⟨rfl,hwf⟩:=hk
      have:=bounds_u64 hwf
      refine ⟨UInt64.ofNat n.toNat,?_⟩
      simp only [Rep,ee,dg]
      congr 2
      omega
     ·cases hr
   ·rename_i he
    rw [he] at hd
    simp only at hd
    subst hd
    match cs,hl with
    | [c],hl1=>
     cases c<;>simp only at hr<;>try (cases hr;done)
     rename_i k' n
     split at hr
     ·rename_i hk
      obtain ⟨rfl,hwf⟩:=hk
      have:=bounds_u8 hwf
      refine ⟨UInt8.ofNat n.toNat,?_⟩
      simp only [Rep,vu8,UInt8.toNat_ofNat']
      congr 2
      omega
     ·cases hr
   ·rename_i he
    rw [he] at hd
    simp only at hd
    subst hd
    match cs,hl with
    | [c],hl1=>
     cases c<;>simp only at hr<;>try (cases hr;done)
     rename_i k' n
     split at hr
     ·rename_i hk
      obtain ⟨rfl,hwf⟩:=hk
      have:=bounds_i64 hwf
      exact ⟨n,rfl,aL (by omega)⟩
     ·cases hr
   ·rename_i he
    rw [he] at hd
    simp only at hd
    subst hd
    match cs,hl with
    | [c],hl1=>
     cases c<;>simp only at hr<;>try (cases hr;done)
     rename_i s
     split at hr
     ·cases hr
      refine ⟨s.data.toList,?_⟩
      have:=hw s.data.toList.length (by simp [DataW.weights])
      unfold reachBytes at this
      simp only [Rep]
      exact ⟨trivial,by unfold cE;omega⟩
     ·cases hr
   ·--four words
    rename_i m e he
    rw [he] at hd
    simp only at hd
    subst hd
    simp only [av] at h
    obtain ⟨h1,h2,h3⟩:=h
    split at h1
    ·rename_i ei hei
     rw [av] at h1
     obtain ⟨h4,h5⟩:=h1
     split at h4
     ·rename_i hed
      have h2:=aX h2
      have h5:=aX h5
      subst h2
      obtain ⟨de,hue,hde⟩:=(hte e ei hei).desc
      rw [hed] at hde
      simp only at hde
      subst hde
      have hl4:cs.length=4:=hl
      simp only at hr
      rw [if_pos (by rw [hcells];rw [hl4];exact (aX h3).symm)] at hr
      simp only [Option.map_eq_some_iff] at hr
      obtain ⟨xs,hm,hx⟩:=hr
      obtain ⟨m1,m2⟩:=IG hm
      rw [List.length_range] at m1
      match cs,hl4 with
      | [c0,c1,c2,c3],hl1=>
       have key:∀ i (hi:i<4),∃ x:UInt64,[c0,c1,c2,c3][i]=ee x:=λi hi=>by
        have:=m2 i (by simpa using hi) (by omega)
        rw [List.getElem_range,jU hte hei,h5,Nat.mul_one] at this
        have e2:([c0,c1,c2,c3].drop i).take 1= [[c0,c1,c2,c3][i]]:=by
         rw [oW (by simpa using hi)]
         rfl
        rw [e2] at this
        exact aCC hue this
       obtain ⟨x0,k0⟩:=key 0 (by omega)
       obtain ⟨x1,k1⟩:=key 1 (by omega)
       obtain ⟨x2,k2⟩:=key 2 (by omega)
       obtain ⟨x3,k3⟩:=key 3 (by omega)
       simp only [List.getElem_cons_zero,List.getElem_cons_succ] at k0 k1 k2 k3
       exact ⟨⟨x0,x1,x2,x3⟩,by simp only [Rep,k0,k1,k2,k3]⟩
     ·cases h4
    ·cases h1
   ·--an array
    rename_i m e k' t he
    rw [he] at hd
    simp only at hd
    subst hd
    simp only [av] at h
    obtain ⟨h1,h2,h3,h4⟩:=h
    have h1:=aX h1
    subst h1
    obtain ⟨ei,hei,hs⟩:=xl h2
    have hl':cs.length=m*t.size:=hl
    simp only at hr
    rw [if_pos (by rw [hcells,hl'];exact (aX h3).symm)] at hr
    simp only [Option.map_eq_some_iff] at hr
    obtain ⟨xs,hm,hx⟩:=hr
    cases hx
    have key:=aup (go:=λ_ _=>true) hte hei hs (λc d ps h1 h2 h3=>zV k fuel e t c d ps h4 h1 h2 h3) hl' hm (λn hn=>hw n (by simp only [DataW.weights,hu];exact hn))
    obtain ⟨l,l1,l2⟩:=yQ (d:=t.d) m key
    exact ⟨l,hl',l1,l2⟩
   ·--a slice
    rename_i e t he
    rw [he] at hd
    simp only at hd
    subst hd
    rw [av] at h
    obtain ⟨h1,h4⟩:=h
    split at h1
    ·rename_i ei hei
     simp only [av] at h1
     obtain ⟨h1,h2,h3⟩:=h1
     have hs:=aX h1
     have hpos:=db h2
     have hby:=db h3
     match cs,hl with
     | [c],hl1=>
      cases c<;>try (exfalso;simp at hr;done)
      rename_i ad len cap
      cases ad with
      |none=>
       rcases len with _|len
       ·rcases cap with _|cap
        ·exact ⟨[],by simp only [Rep];exact ⟨Nat.zero_le _,none,0,rfl,Nat.le_refl _,.inl trivial⟩⟩
        ·cases hr
       ·cases hr
      |some a=>
       simp only at hr
       split at hr
       ·rename_i hcond
        obtain ⟨_,hlc,_⟩:=hcond
        simp only [Option.bind_eq_some_iff,Option.map_eq_some_iff] at hr
        obtain ⟨elems,hm,rest,_,hx⟩:=hr
        cases hx
        obtain ⟨m1,m2⟩:=IG hm
        rw [List.length_range] at m1
        have hwt:=hw ((elems.length+rest.length)*P.bytesOf e) (by simp [DataW.weights,hu])
        rw [ani hte hei] at hwt
        have hlen:len<=cE:=by
         have:elems.length<=(elems.length+rest.length)*ei.bytes:=gC (Nat.le_add_right _ _) (Nat.le_mul_of_pos_right _ hby)
         unfold reachBytes at hwt
         unfold cE
         omega
        rcases Nat.eq_zero_or_pos len with h0|h0
        ·subst h0
         exact ⟨[],by simp only [Rep];exact ⟨Nat.zero_le _,_,_,rfl,Nat.zero_le _,.inl trivial⟩⟩
        ·have key:∀ i,i<len->∃ c,w.cells? 0 (a.add (i*t.size)) t.size=some c/\∃ x,Rep (Rc w) t x c:=λi hi=>by
          have:=m2 i (by simpa using hi) (by omega)
          rw [List.getElem_range,jU hte hei,hs] at this
          obtain ⟨c,hc,hrr⟩:=Option.bind_eq_some_iff.1 this
          refine ⟨c,hc,zV k fuel e t c (elems[i]'(by omega)).1 (elems[i]'(by omega)).2 h4 ?_ hrr λn hn=>hw n ?_⟩
          ·obtain ⟨arr,E,fz,_,_,hle,rfl⟩:=RS (by omega) hc
           exact gI (by simpa using hle)
          ·simp only [DataW.weights,hu,List.mem_cons,List.mem_append]
           exact .inr (.inl (nL (List.mem_map.2 ⟨elems[i]'(by omega),List.getElem_mem _,rfl⟩) n hn))
         obtain ⟨c0,hc0,_⟩:=key 0 h0
         rw [Nat.zero_mul] at hc0
         obtain ⟨arr,E,fz,hb,hsp,_,_⟩:=RS (by omega) hc0
         have hb':w.heap[a.block]? =some (.cells arr E fz):=hb
         have hsp':a.spot=none:=hsp
         have at_i:∀ i,i<len->a.off+i*t.size+t.size<=arr.size/\∃ x,Rep (Rc w) t x (seg arr.toList (a.off+i*t.size) t.size):=λi hi=>by
          obtain ⟨c,hc,x,hx⟩:=key i hi
          obtain ⟨arr2,E2,fz2,hb2,_,hle,rfl⟩:=RS (by omega) hc
          have hblk:(a.add (i*t.size)).block=a.block:=by unfold Addr.add;split<;>rfl
          have hoff:(a.add (i*t.size)).off=a.off+i*t.size:=by
           unfold Addr.add
           split
           ·rename_i h;rw [h];rfl
           ·rfl
          rw [hblk,hb'] at hb2
          cases hb2
          rw [hoff] at hle hx
          exact ⟨hle,x,hx⟩
         obtain ⟨l,l1,l2⟩:=yQ (d:=t.d) len λi hi=>(at_i i hi).2
         refine ⟨l,?_⟩
         simp only [Rep]
         refine ⟨by omega,some a,cap,by rw [l1],by omega,.inr ⟨a.block,a.off,arr,E,fz,?_,hb',?_,λi hi=>l2 i (by omega)⟩⟩
         ·obtain ⟨blk,off,spot⟩:=a
          simp only at hsp'
          rw [hsp']
         ·have:=(at_i (len-1) (by omega)).1
          have e2:(len-1)*t.size+t.size=len*t.size:=by
           rw [<-Nat.succ_mul]
           congr 1
           omega
          rw [l1]
          omega
       ·cases hr
    ·cases h1
   ·--a struct
    rename_i y _ _ fs he
    rw [he] at hd
    simp only at hd
    obtain ⟨fields,rfl,hf,_⟩:=hd
    rw [av] at h
    have hsz:=aX h.1
    simp only at hr
    rw [if_pos (by rw [hcells,hl];exact hsz.symm)] at hr
    simp only [Option.map_eq_some_iff] at hr
    obtain ⟨xs,hm,hx⟩:=hr
    cases hx
    have h2:=h.2
    rw [<-hf] at h2
    have:=NF hte (go:=Ax te k) (cs:=cs) (λT y c d ps a b c' d'=>zV k fuel T y c d ps a b c' d') fields.toList 0 y xs h2 (by omega) hm (λn hn=>hw n (by simp only [DataW.weights,hu];exact hn))
    simpa using this
   ·cases h
end
end Sx
end
section
namespace Sx
open Go Go.RowKit Go.ChangeShapes Go.WideShapes Go.ChangeAt
def auq (te:TE) (k:Nat):List TypeId->List (Bool×Ty)->Bool
 | [],[]=>true
 |T::ts,(b,y)::r=>(match te T with
  |some ti=>(b==ti.desc.agg)&&Nat.beq ti.size y.size
  |none=>false)&&(Ax te k T y&&auq te k ts r)
 |_,_=>false
section
variable {H:Type} {enc:TypeId×Value->H} {P:Program} {te:TE} (hte:kH P te) {w:World} {sp:Nat->Bool}
include hte
theorem axs {k:Nat} {T:TypeId} {y:Ty} {ti:TI} {v:Value} {d:DataW H} {ps:List MemPlace} (hT:te T=some ti) (hs:ti.size=y.size) (hp:Ax te k T y=true) {base:Nat} (hok:Value.okWide P w .any base T v)
 (h:DataW.Trod enc P w 0 sp true T v d ps) (hw:∀ n ∈ d.weights P T,n<=reachBytes):∃ x:y.T,SV.rel (iM w) (inj ti.desc.agg y x) v:=by
 obtain ⟨fuel,hf⟩:=h
 obtain ⟨ds,hu,hd⟩:=(hte T ti hT).desc
 cases hagg:ti.desc.agg
 ·have hone:v.cells.toList= [v]/\v.oneCell'=true:=by
   have hc:Cell.okWide P w .any base T v:=by
    unfold Value.okWide at hok
    rw [hu] at hok
    cases ds<;>first|exact hok|skip
    all_goals (
     cases hk:ti.desc<;>rw [hk] at hd hagg<;>simp only [TD.agg] at hd hagg<;>
      first|(cases hagg;done)|(cases hd;done)|(obtain ⟨e,he⟩:=hd;cases he;done)|(obtain ⟨⟨e,he⟩,_⟩:=hd;cases he;done)|exact absurd hd id)
   unfold Cell.okWide Cell.ok at hc
   rw [hu] at hc
   cases v<;>first|exact ⟨rfl,rfl⟩|(exfalso;cases ds<;>first|exact hc|(simp at hc;done))
  rw [hone.1] at hf
  have hsz:y.size=1:=by rw [<-hs];exact (hte T ti hT).one hagg
  obtain ⟨x,hx⟩:=zV hte k fuel T y [v] d ps hp (by rw [hsz];rfl) hf hw
  refine ⟨x,?_⟩
  have hr:=eS (R:=iM w) y x [v] hx
  simp only [inj,rF,Bool.false_eq_true,if_false]
  have hl:=gG y x
  rw [hsz] at hl
  match hc:unpack y x,hl with
  | [u],_=>
   rw [hc] at hr
   obtain ⟨v',e,h⟩:=bW hr
   cases e
   exact h
 ·have hv:∃ cs,v=.agg cs/\cs.size=P.cellsOf T:=by
   unfold Value.okWide at hok
   rw [hu] at hok
   cases hk:ti.desc<;>rw [hk] at hd hagg<;>simp only [TD.agg] at hd hagg<;>try (cases hagg;done)
   ·obtain ⟨fields,rfl,_⟩:=hd
    obtain ⟨cs,h1,h2,_⟩:=hok
    exact ⟨cs,h1,h2⟩
   ·subst hd
    obtain ⟨cs,h1,h2,_⟩:=hok
    exact ⟨cs,h1,h2⟩
  obtain ⟨cs,rfl,hsz⟩:=hv
  obtain ⟨x,hx⟩:=zV hte k fuel T y cs.toList d ps hp (by rw [Array.length_toList,hsz,jU hte hT,hs]) hf hw
  exact ⟨x,AR (eS (R:=iM w) y x _ hx) (re _ _ _ hx)⟩
theorem U9 {k base:Nat}:∀ {ts:List TypeId} {kd:List (Bool×Ty)} {vs:List Value} {ds:List (DataW H)} {ps:List MemPlace},auq te k ts kd=true->
 (∀ (j:Nat) t v,ts[j]? =some t->vs[j]? =some v->Value.okWide P w .any base t v)->DataW.TrodAll enc P w 0 sp true ts vs ds ps->(DataW.weightsEach P ts ds).all (· <=reachBytes)=true->
 ∃ x:ATy kd,SV.bx (iM w) (aAH kd x) vs
 | [],[],[],[],_,_,_,_,_=>⟨(),by simp only [aAH,SV.bx]⟩
 | [],[],v::vs,_,_,_,_,h,_=>by simp [DataW.TrodAll] at h
 | [],[],[],d::ds,_,_,_,h,_=>by simp [DataW.TrodAll] at h
 | [],a::kd,_,_,_,h,_,_,_=>by simp [auq] at h
 |T::ts,[],_,_,_,h,_,_,_=>by simp [auq] at h
 |T::ts,(b,y)::kd,[],_,_,_,_,h,_=>by simp [DataW.TrodAll] at h
 |T::ts,(b,y)::kd,v::vs,[],_,_,_,h,_=>by simp [DataW.TrodAll] at h
 |T::ts,(b,y)::kd,v::vs,d::ds,ps,h,hok,ht,hw=>by
  obtain ⟨p,q,h1,h2,rfl⟩:=ht
  simp only [auq,av] at h
  obtain ⟨hb,hp,hr⟩:=h
  split at hb
  ·rename_i ti hT
   rw [av] at hb
   have e1:b=ti.desc.agg:=by simpa using hb.1
   subst e1
   simp only [DataW.weightsEach,List.all_append,av] at hw
   obtain ⟨x,hx⟩:=axs hte hT (aX hb.2) hp (hok 0 T v rfl rfl) h1 λn hn=>by simpa using List.all_eq_true.1 hw.1 n hn
   obtain ⟨xs,hxs⟩:=U9 hr (λj t u h1 h2=>hok (j+1) t u h1 h2) h2 hw.2
   exact ⟨(x,xs),by simp only [aAH,SV.bx];exact ⟨v,vs,rfl,hx,hxs⟩⟩
  ·cases hb
end
theorem awS {S:af} {pre:S.T->Bool} {F:S.T->OT S.Y} {args:List SV} {X:S.T} {out:Out} (hp:S.inp.prj ⟨args,aqi⟩=some X) (hpre:pre X=true)
 (hr:((F X).bind λoy=>S.emit (S.inp.bd ⟨args,aqi⟩) 0 aqi oy.1 oy.2).run=some out):((S.aw pre F).f 0 args aqi).run=some out:=by
 simp only [af.aw,hp,hpre]
 exact hr
theorem Oh {H:Type} {enc:TypeId×Value->H} {P:Program} {w w':World} (hl:laidOutB P=true) (hb:Below w.heap.size w w'):∀ {ts:List TypeId} {vs:List Value} {ds:List (DataW H)} {ps:List MemPlace},
 ts.all (λt=>P.readableRec t&&Nat.blt t P.types.size)=true->DataW.TrodAll enc P w 0 (λ_=>true) true ts vs ds ps->DataW.TrodAll enc P w' 0 (λb=>decide (b<w.heap.size)) true ts vs ds ps
 | [],[],[],_,_,h=>h
 | [],v::vs,_,_,_,h=>by simp [DataW.TrodAll] at h
 | [],[],d::ds,_,_,h=>by simp [DataW.TrodAll] at h
 |T::ts,[],_,_,_,h=>by simp [DataW.TrodAll] at h
 |T::ts,v::vs,[],_,_,h=>by simp [DataW.TrodAll] at h
 |T::ts,v::vs,d::ds,ps,hr,h=>by
  obtain ⟨p,q,h1,h2,rfl⟩:=h
  simp only [ax,av] at hr
  have lt1:∀ x ∈ p,x.block<w.heap.size:=by obtain ⟨m,hm⟩:=h1;exact DataW.trod_lt m _ _ _ hm
  exact ⟨p,q,Below.trod hl hr.1.1 (db hr.1.2) h1 hb lt1,Oh hl hb hr.2 h2,rfl⟩
end Sx
end
section
namespace Sx
open Go
theorem OT.Sd {α β:Type} {f:α->OT β}:∀ {t:OT α} {a:α} {b:β},t.run=some a->(f a).run=some b->(t.bind f).run=some b
 |.ok x,a,b,h,h2=>by
  cases h
  exact h2
 |.br c x y,a,b,h,h2=>by
  cases c
  ·exact OT.Sd (t:=y) h h2
  ·exact OT.Sd (t:=x) h h2
 |.fail,a,b,h,_=>by cases h
theorem cw {P:Program} {n:FuncId} {S:af} {pre pre':S.T->Bool} {F F':S.T->OT S.Y} (h:aa P n (S.aw pre F))
 (hw:∀ x oy,pre' x=true->(F' x).run=some oy->pre x=true/\(F x).run=some oy):aa P n (S.aw pre' F'):=by
 refine ⟨λR w d args vs out hm hr hrun=>h.calls R w d args vs out hm hr ?_⟩
 simp only [af.aw] at hrun⊢
 split at hrun
 ·cases hrun
 ·rename_i x hx
  obtain ⟨hp,hrun⟩:=OT.aD hrun
  obtain ⟨oy,h1,h2⟩:=OT.run_bind hrun
  obtain ⟨h3,h4⟩:=hw x oy hp h1
  rw [h3]
  exact OT.Sd h4 h2
end Sx
end
section
namespace Sx
open Go
theorem aAQ {P:Program} {f:FuncId} {S:af} {k:Nat} (hk:S.chunks.all (λc=>Nat.blt c.1 k&& !c.2.iz)=true) {pre:S.T->Bool} {F:S.T->OT S.Y}
 (h:∀ (x:S.T) (oy:S.Y) (vs:List Value) (N:Ctx) (w:World),pre x=true->(F x).run=some oy->SV.bx N (S.inp.inj x).tm vs->
  ∃ v u,(callFunc f vs.toArray).run P w=.ok (.value u) w/\SV.rel N v u/\oy.1.is oy.2 false v (dH S.chunks x.2)):aa P f (S.aw pre F):=by
 refine ⟨?_⟩
 intro R w d args vs out hm hr hrun
 simp only [af.aw] at hrun
 split at hrun
 ·cases hrun
 ·rename_i x hx
  obtain ⟨hpre,h2⟩:=OT.aD hrun
  obtain ⟨oy,h3,h4⟩:=OT.run_bind h2
  unfold af.emit at h4
  dsimp only at h4
  obtain ⟨hend,h5⟩:=OT.aD h4
  have hx':=hx
  unfold Shape.prj at hx'
  dsimp only at hx'
  cases hbo:S.inp.KT ⟨args,R.hp⟩ (S.inp.bd ⟨args,R.hp⟩)&&Nat.beq args.length S.inp.n
  ·rw [hbo] at hx';cases hx'
  ·rw [hbo] at hx'
   rw [av] at hbo
   obtain ⟨hx1,hx2⟩:=aU hx'
   have hlen:args.length=S.inp.n:=aX hbo.2
   have hN:=F7 (s:=S.inp) (st:=⟨args,R.hp⟩) (F':=R.A4 (S.inp.bd ⟨args,R.hp⟩) S.bF w) (U':=R.Gg (S.inp.bd ⟨args,R.hp⟩) S.bF w) hbo.1 hx2 rfl hm (Jf hm) (Du hm) acd (Je hm) Jd arl hm.env
   have hargs:SV.bx (R.named (R.A4 (S.inp.bd ⟨args,R.hp⟩) S.bF w) (R.Gg (S.inp.bd ⟨args,R.hp⟩) S.bF w) (S.inp.bd ⟨args,R.hp⟩) (dH S.chunks x.2)) (S.inp.inj x).tm vs:=
    kk (s:=S.inp) (st:=⟨args,R.hp⟩) hbo.1 hx2 rfl hm (Jf hm) (Du hm) hr hx1 (SV.py (by rw [nI,<-hlen];exact SV.aJ hr) λi hi hi'=>by simp [SV.rel])
   obtain ⟨v,u,hv,hru,his⟩:=h x oy vs _ w hpre h3 hargs
   obtain ⟨R',a1,a2⟩:=ahb hm hx hk (Ctx.Ext.refl _) hN hru his hend
   rw [his.1] at h5
   cases h5
   exact .inr ⟨u,w,hv,u,R',rfl,a1,a2⟩
end Sx
end
section
namespace Sx
open Go
def Out.after (u:List (Nat×Ch)):Out->Out
 |.ret e=>.ret ⟨e.v,u++e.upd⟩
 |.pan v u'=>.pan v (u++u')
def aCM (c0 e0:Nat) (vs:List SV) (j c e:Nat) (t:Ty) (xs:List t.T):List (Nat×Ch):= [(c,⟨e+1,.row .u8 []⟩),(c0,⟨e0,.cells (vs.set j (.lst t xs))⟩)]
theorem Df {α β:Type} {f:α->β} {x:OT α} {a:α} (h:x.run=some a):(x.map f).run=some (f a):=by
 induction x with
 |ok b=>cases h;rfl
 |br b u v hu hv=>
  cases b
  ·exact hv h
  ·exact hu h
 |fail=>cases h
theorem dD.trans {R R1 R2:Ctx} {w w':World} {u u':List (Nat×Ch)} (h:dD R R1 w u) (h':dD R1 R2 w' u'):dD R R2 w' (u++u'):=
 ⟨h.ext.trans h'.ext,by rw [h'.hp,h.hp,iu],h'.mem⟩
theorem aeY {R:Ctx} {w:World} (hm:cu R w) {c e:Nat} {t:Ty} {xs:List t.T} (hc:R.hp c=some ⟨e,.row t xs⟩):
 ∃ R1,dD R R1 w [(c,⟨e+1,.row .u8 []⟩)]/\∀ v,R.own c e v->SV.rel R1 (.lst t xs) v:=by
 have h0:=hm.ch c _ hc
 cases hσ:R.σ c with
 |none=>
  simp only [eG,hσ] at h0
  have hx:R.Ext (R.upd c ⟨e+1,.row .u8 []⟩):=⟨λ_ _ h=>h,rfl,λc' ch' hc'=>by
   grind [Ctx.upd]⟩
  refine ⟨R.upd c ⟨e+1,.row .u8 []⟩,⟨hx,rfl,?_⟩,λv hv=> ?_⟩
  ·refine cu.turn hm hx rfl rfl (λ_ _=>rfl) w.heap.size (λ_ _ _=>rfl) ⟨hm.Mj,hm.Mg,λn ch L hn h1 h2 h3=> ?_⟩ ?_ (λL h2=> ?_)
   ·have:=hm.lt h1 h2 h3;omega
   ·simp only [eG,Ctx.upd,hσ]
    exact ⟨by decide,by simp,trivial⟩
   ·have h2:R.σ c=some L:=h2
    grind
  ·have hp:=Ctx.cN hc hv
   obtain ⟨_,_,ad,cap,rfl,h4,h5⟩:=Ctx.cD hc hp
   simp_all [SV.rel,Rep]
 |some L=>
  simp only [eG,hσ] at h0
  obtain ⟨hpos,hl,hF,hU,arr,E,k1,k2,k3,k4⟩:=h0
  have ha:=QA hm hc hσ (w₁:=w) (λ_ _=>rfl) k1 ⟨rfl,rfl,rfl⟩
  refine ⟨_,ha,λv hv=> ?_⟩
  have hp:=Ctx.cN hc hv
  obtain ⟨_,_,ad,cap,rfl,h4,h5⟩:=Ctx.cD hc hp
  rw [hσ] at h5
  simp only [Chunk.shape,Nat.zero_mul] at h4 h5
  refine ⟨hl,ad,cap,rfl,h4,?_⟩
  by_cases hx:xs= []
  ·exact .inl hx
  ·have hxl:0<xs.length:=(by grind)
   have had:=h5.2 (by omega)
   subst had
   exact .inr ⟨L.block,L.base,arr,E,(0,0),rfl,by grind [Ctx.oe],by omega,λi hi=>bO ha.ext.F _ _ _ (k4 i hi)⟩
theorem CG {R:Ctx}:∀ {l:List SV} {vs:List Value} (j:Nat) (x:SV),SV.bx R l vs->(∀ v,vs[j]? =some v->SV.rel R x v)->SV.bx R (l.set j x) vs
 | [],_,_,_,h,_=>h
 |y::l,vs,0,x,h,hx=>by
  grind [SV.bx]
 |y::l,vs,j+1,x,h,hx=>by
  obtain ⟨v,r,rfl,h1,h2⟩:=h
  exact ⟨v,r,rfl,h1,CG j x h2 (by grind)⟩
theorem aaq {R:Ctx}:∀ {l:List SV} {vs:List Value} {j:Nat} {x:SV},SV.bx R l vs->l[j]? =some x->∃ v,vs[j]? =some v/\SV.rel R x v
 |y::l,vs,0,x,h,hx=>by
  grind [SV.bx]
 |y::l,vs,j+1,x,h,hx=>by
  obtain ⟨v,r,rfl,h1,h2⟩:=h
  exact aaq (j:=j) h2 hx
 | [],_,_,_,_,hx=>by grind
theorem Mr {R:Ctx} {w:World} (hm:cu R w) {c0 e0 j c e:Nat} {vs:List SV} {t:Ty} {xs:List t.T} (h0:R.hp c0=some ⟨e0,.cells vs⟩) (hj:vs[j]? =some (.own c e)) (hc:R.hp c=some ⟨e,.row t xs⟩) (hne:c≠c0):
 ∃ R1,dD R R1 w (aCM c0 e0 vs j c e t xs):=by
 obtain ⟨R1,ha,hrel⟩:=aeY hm hc
 have hch:=hm.ch c0 _ h0
 obtain ⟨L,hL,hF,hU,arr,E,k1,k2,k3,k4,k5⟩:=hch
 have h0':R1.hp c0=some ⟨e0,.cells vs⟩:=by
  rw [ha.hp]
  show (if c0=c then _ else R.hp c0)=_
  grind
 have hch1:=ha.mem.ch c0 _ h0'
 obtain ⟨L1,hL1,hF1,hU1,arr1,E1,q1,q2,q3,q4,q5⟩:=hch1
 obtain ⟨ch',hc1,hep,hsame⟩:=ha.ext.ch c0 _ h0
 have hL1':R1.σ c0=R.σ c0:=by
  grind
 rw [hL1',hL] at hL1
 cases hL1
 rw [k1] at q1
 obtain ⟨v,hv,hvr⟩:=aaq k4 hj
 simp only [SV.rel] at hvr
 have hx:R1.Ext (R1.upd c0 ⟨e0,.cells (vs.set j (.lst t xs))⟩):=Ctx.ZA h0' (Nat.le_refl _) (λ_=>by grind [Chunk.shape])
 refine ⟨R1.upd c0 ⟨e0,.cells (vs.set j (.lst t xs))⟩,ha.ext.trans hx,?_,?_⟩
 ·show (λn=>if n=c0 then some _ else R1.hp n)=_
  rw [ha.hp]
  rfl
 ·refine cu.turn ha.mem hx rfl rfl (λ_ _=>rfl) L.block (by grind) ⟨hF1,hU1,λn ch2 L2 hn hn2 hm2 hs2 heq=>hn (ha.mem.apart n c0 _ _ L2 L hn2 h0' hm2 rfl hs2 (hL1'.trans hL) heq)⟩ ?_ (λL2 h2=> ?_)
  ·refine ⟨L,hL1'.trans hL,hF1,hU1,arr,E,k1,k2,by grind,?_,k5⟩
   grind [SV.eH,CG]
  ·have h3:R1.σ c0=some L2:=h2
   grind
end Sx
end
section
namespace Sx
open Go
def alJ (u:List (Nat×Ch)) (c e:Nat):Option Chunk:=match cG aqi u c with
 |some ⟨ep,b⟩=>cond (Nat.beq ep e) (some b) none
 |none=>none
theorem Na {u:List (Nat×Ch)} {c e:Nat} {b:Chunk} (h:alJ u c e=some b) {hp:Hp}:cG hp u c=some ⟨e,b⟩:=by grind [alJ,Nat.beq,aX,bt,PQ,aqi,eo]
def hop (u:List (Nat×Ch)):List Nat->SV->Option (Nat×Nat)
 | [],.ptr c e 0 0=>some (c,e)
 | [],.iface _ (.ptr c e 0 0)=>some (c,e)
 |i::r,.ptr c e 0 0=>match alJ u c e with
  |some (.cells vs)=>hop u r (vs.getD i .fY)
  |_=>none
 |i::r,.iface _ (.ptr c e 0 0)=>match alJ u c e with
  |some (.cells vs)=>hop u r (vs.getD i .fY)
  |_=>none
 |_,_=>none
def aGg:SV->SV
 |.tup (x::_)=>x
 |x=>x
def aHD (path:List Nat) (j:Nat) (v:SV) (u:List (Nat×Ch)):List (Nat×Ch):=
 match hop u path (aGg v) with
 |some (c0,e0)=>match alJ u c0 e0 with
  |some (.cells vs)=>match vs[j]? with
   |some (.own c e)=>match alJ u c e with
    |some (.row t xs)=>cond (Nat.beq c c0) [] (aCM c0 e0 vs j c e t xs)
    |_=> []
   |_=> []
  |_=> []
 |none=> []
def Out.aIi (path:List Nat) (j:Nat):Out->Out
 |.ret e=>.ret ⟨e.v,e.upd++aHD path j e.v e.upd⟩
 |.pan v u=>.pan v u
def rO (path:List Nat) (j:Nat) (s:bi):bi:=⟨s.mod,λd args hp=>(s.f d args hp).map (Out.aIi path j)⟩
theorem alg {R R':Ctx} {w:World} {path:List Nat} {j:Nat} {v:SV} {u:List (Nat×Ch)} (h:dD R R' w u):∃ R1,dD R' R1 w (aHD path j v u):=by
 unfold aHD
 split
 ·rename_i c0 e0 _
  split
  ·rename_i vs h0
   split
   ·rename_i c e hj
    split
    ·rename_i t xs hc
     cases hb:Nat.beq c c0
     ·have hne:c≠c0:=λe=>by subst e;simp at hb
      exact Mr h.mem (by rw [h.hp];exact Na h0) hj (by rw [h.hp];exact Na hc) hne
     ·exact ⟨R',dD.nothing h.mem⟩
    ·exact ⟨R',dD.nothing h.mem⟩
   ·exact ⟨R',dD.nothing h.mem⟩
  ·exact ⟨R',dD.nothing h.mem⟩
 ·exact ⟨R',dD.nothing h.mem⟩
theorem uz {P:Program} {f:FuncId} {s:bi} {path:List Nat} {j:Nat} (h:aa P f s):aa P f (rO path j s):=by
 refine ⟨λR w d args vs out hm hr hrun=> ?_⟩
 simp only [rO] at hrun
 obtain ⟨out',h1,rfl⟩:=OT.run_map hrun
 have hpost:∀ en w',ik R out' en w'->ik R (Out.aIi path j out') en w':=λen w' hp=>by
  cases out' with
  |ret q=>
   obtain ⟨v,R',h2,h3,h4⟩:=hp
   obtain ⟨R1,h5⟩:=alg (path:=path) (j:=j) (v:=q.v) h3
   exact ⟨v,R1,h2,h3.trans h5,SV.aap h5.ext _ _ h4⟩
  |pan q u=>exact hp
 rcases h.calls R w d args vs out' hm hr h1 with ⟨fn,f1,f2,f3,hcl⟩|⟨v,w',hv,hp⟩
 ·exact .inl ⟨fn,f1,f2,f3,hcl.mono hpost⟩
 ·exact .inr ⟨v,w',hv,hpost _ _ hp⟩
theorem mR {s:bi} {path:List Nat} {j:Nat} (h:au s):au (rO path j s):=λd args hp hp' out hg hrun=>by
 simp only [rO] at hrun⊢
 obtain ⟨out',h1,rfl⟩:=OT.run_map hrun
 exact Df (h d args hp hp' out' hg h1)
def atE (s0 s1:bi):bi:=⟨s0.mod||s1.mod,λd args hp=>match args.getD 0 .fY with
 |.ptr _ _ _ 1=>s1.f d args hp
 |_=>s0.f d args hp⟩
theorem azh {P:Program} {f:FuncId} {s0 s1:bi} (h0:aa P f s0) (h1:aa P f s1):aa P f (atE s0 s1):=by
 refine ⟨λR w d args vs out hm hr hrun=> ?_⟩
 simp only [atE] at hrun
 split at hrun
 ·exact h1.calls R w d args vs out hm hr hrun
 ·exact h0.calls R w d args vs out hm hr hrun
theorem anj {s0 s1:bi} (h0:au s0) (h1:au s1):au (atE s0 s1):=λd args hp hp' out hg hrun=>by
 simp only [atE] at hrun⊢
 split at hrun
 ·exact h1 d args hp hp' out hg hrun
 ·exact h0 d args hp hp' out hg hrun
def Cy (k:Nat) (s:bi):bi:=⟨true,λd args hp=>match args.getD k .fY with
 |.own c e=>match dZ hp c e with
  |some (.row t xs)=>(s.f d (args.set k (.lst t xs)) (cG hp [(c,⟨e+1,.row .u8 []⟩)])).map (Out.after [(c,⟨e+1,.row .u8 []⟩)])
  |some _=>s.f d args hp
  |none=>.fail
 |_=>s.f d args hp⟩
theorem Ms {P:Program} {f:FuncId} {s:bi} {k:Nat} (h:aa P f s):aa P f (Cy k s):=by
 refine ⟨λR w d args vs out hm hr hrun=> ?_⟩
 simp only [Cy] at hrun
 split at hrun
 ·rename_i c e harg
  split at hrun
  ·rename_i t xs hc
   obtain ⟨out',h1,rfl⟩:=OT.run_map hrun
   obtain ⟨R1,ha,hrel⟩:=aeY hm (bP hc)
   rw [<-show R1.hp=cG R.hp [(c,⟨e+1,.row .u8 []⟩)] from ha.hp] at h1
   have hr1:SV.bx R1 (args.set k (.lst t xs)) vs:=CG k _ (SV.eH ha.ext _ _ hr) λv hv=>by
    have hk:args[k]? =some (.own c e):=by
     rw [ju] at harg
     cases hq:args[k]? with
     |none=>rw [hq] at harg;cases harg
     |some y=>rw [hq] at harg;exact congrArg some harg
    obtain ⟨v',hv',hvr⟩:=aaq hr hk
    rw [hv] at hv'
    cases hv'
    simp only [SV.rel] at hvr
    exact hrel v hvr.2
   have hpost:∀ en w',ik R1 out' en w'->ik R (Out.after [(c,⟨e+1,.row .u8 []⟩)] out') en w':=λen w' hp=>by
    cases out' with
    |ret q=>
     obtain ⟨v,R',h2,h3,h4⟩:=hp
     exact ⟨v,R',h2,ha.trans h3,h4⟩
    |pan q u=>
     obtain ⟨v,R',h2,h3,h4⟩:=hp
     exact ⟨v,R',h2,ha.trans h3,h4⟩
   rcases h.calls R1 w d _ vs out' ha.mem hr1 h1 with ⟨fn,f1,f2,f3,hcl⟩|⟨v,w',hv,hp⟩
   ·exact .inl ⟨fn,f1,f2,f3,hcl.mono hpost⟩
   ·exact .inr ⟨v,w',hv,hpost _ _ hp⟩
  ·exact h.calls R w d args vs out hm hr hrun
  ·cases hrun
 ·exact h.calls R w d args vs out hm hr hrun
theorem ED {s:bi} {k:Nat} (h:au s):au (Cy k s):=λd args hp hp' out hg hrun=>by
 simp only [Cy] at hrun⊢
 split at hrun
 ·split at hrun
  ·rename_i t xs hc
   rw [bM hg hc]
   simp only
   obtain ⟨out',h1,rfl⟩:=OT.run_map hrun
   refine Df (h d _ _ _ out' ⟨λn ch hn=> ?_,λn hn hn0=> ?_⟩ h1)
   ·simp only [cG] at hn⊢
    split
    ·rename_i h2;rw [if_pos h2] at hn;exact hn
    ·rename_i h2;rw [if_neg h2] at hn;exact hg.mj _ _ hn
   ·simp only [cG] at hn0⊢
    split
    ·rename_i h2;rw [if_pos h2] at hn0;cases hn0
    ·rename_i h2;rw [if_neg h2] at hn0;exact hg.free _ hn hn0
  ·rename_i b hnr hc
   rw [bM hg hc]
   cases b<;>first|exact h _ _ _ _ _ hg hrun|exact absurd rfl (hnr _ _)
  ·cases hrun
 ·exact h _ _ _ _ _ hg hrun
end Sx
end
section
namespace Sx
open Go
def Ctx.tf (R:Ctx) (c:Nat) (ch:Ch) (b:Nat) (o:Obj):Ctx:=
 ⟨λb'=>if b'=b then some o else R.F b',R.U,R.σ,λc'=>if c'=c then some ch else R.hp c'⟩
theorem Ny {R:Ctx} {w:World} (hm:cu R w) {c e:Nat} {t:Ty} {xs:List t.T} (hc:R.hp c=some ⟨e,.row t xs⟩):∃ R1,dD R R1 w [(c,⟨e,.frz t xs⟩)]:=by
 have h0:=hm.ch c _ hc
 cases hσ:R.σ c with
 |none=>
  simp only [eG,hσ] at h0
  obtain ⟨hpos,hl,rfl⟩:=h0
  have hx:R.Ext (R.upd c ⟨e,.frz t []⟩):=⟨λ_ _ h=>h,rfl,λc' ch' hc'=>by
   by_cases h1:c'=c
   ·subst h1
    rw [hc] at hc'
    cases hc'
    exact ⟨⟨e,.frz t []⟩,by simp only [Ctx.upd,if_true],Nat.le_refl e,λ_=>⟨rfl,rfl⟩⟩
   ·exact ⟨ch',by simp only [Ctx.upd,if_neg h1,hc'],Nat.le_refl _,λ_=>⟨rfl,rfl⟩⟩⟩
  refine ⟨R.upd c ⟨e,.frz t []⟩,hx,rfl,?_⟩
  refine cu.turn hm hx rfl rfl (λ_ _=>rfl) w.heap.size (λ_ _ _=>rfl) ⟨hm.Mj,hm.Mg,λn ch L hn h1 h2 h3=> ?_⟩ ?_ (λL h2=> ?_)
  ·have:=hm.lt h1 h2 h3;omega
  ·simp only [eG,Ctx.upd,hσ]
   exact ⟨hpos,hl,trivial⟩
  ·have h2:R.σ c=some L:=h2
   rw [hσ] at h2;cases h2
 |some L=>
  simp only [eG,hσ] at h0
  obtain ⟨hpos,hl,hF,hU,arr,E,k1,k2,k3,k4⟩:=h0
  have hx:R.Ext (R.tf c ⟨e,.frz t xs⟩ L.block (.cells arr E (0,0))):=⟨λb o' h=>by
   have:b≠L.block:=λe'=>by rw [e',hF] at h;cases h
   simp only [Ctx.tf,if_neg this,h],rfl,λc' ch' hc'=>by
    by_cases h1:c'=c
    ·subst h1
     rw [hc] at hc'
     cases hc'
     exact ⟨⟨e,.frz t xs⟩,by simp only [Ctx.tf,if_true],Nat.le_refl e,λ_=>⟨rfl,rfl⟩⟩
    ·exact ⟨ch',by simp only [Ctx.tf,if_neg h1,hc'],Nat.le_refl _,λ_=>⟨rfl,rfl⟩⟩⟩
  refine ⟨R.tf c ⟨e,.frz t xs⟩ L.block (.cells arr E (0,0)),hx,rfl,λb o' h=> ?_,λb o' h=>hm.U b o' h,λc' ch' hc'=> ?_,λc1 c2 ch1 ch2 L1 L2 g1 g2 g3 g4 g5 g6 g7=> ?_,λb o' h=> ?_,hm.env⟩
  ·simp only [Ctx.tf] at h
   split at h
   ·rename_i h1
    subst h1
    rw [k1];exact h
   ·exact hm.F b o' h
  ·by_cases h1:c'=c
   ·subst h1
    simp only [Ctx.tf,if_true] at hc'
    cases hc'
    simp only [eG,Ctx.tf,hσ]
    exact ⟨hpos,hl,arr,E,(0,0),by simp only [if_true],k2,k3,λi hi=>bO hx.F _ _ _ (k4 i hi)⟩
   ·simp only [Ctx.tf,if_neg h1] at hc'
    have hch:=hm.ch c' ch' hc'
    have hs:(R.tf c ⟨e,.frz t xs⟩ L.block (.cells arr E (0,0))).σ c'=R.σ c':=rfl
    have hblk:∀ L',R.σ c'=some L'->ch'.body.mut=true->L'.block≠L.block:=λL' h2 h3 h4=>h1 (hm.apart c' c _ _ _ _ hc' hc h3 rfl h2 hσ h4)
    have hFn:∀ b,b≠L.block->R.F b=none->(R.tf c ⟨e,.frz t xs⟩ L.block (.cells arr E (0,0))).F b=none:=λb h2 h3=>by simp only [Ctx.tf,if_neg h2,h3]
    obtain ⟨ep,body⟩:=ch'
    cases body with
    |row t ys=>
     simp only [eG] at hch⊢
     rw [hs]
     refine ⟨hch.1,hch.2.1,?_⟩
     replace hch:=hch.2.2
     cases hL:R.σ c' with
     |none=>rw [hL] at hch;exact hch
     |some L'=>
      rw [hL] at hch
      obtain ⟨c1,c2,arr,E,c3,c4,c5,c6⟩:=hch
      have hne:=hblk L' hL rfl
      exact ⟨hFn _ hne c1,c2,arr,E,c3,c4,c5,λi hi=>bO hx.F _ _ _ (c6 i hi)⟩
    |frz t ys=>
     simp only [eG] at hch⊢
     rw [hs]
     refine ⟨hch.1,hch.2.1,?_⟩
     replace hch:=hch.2.2
     cases hL:R.σ c' with
     |none=>rw [hL] at hch;exact hch
     |some L'=>
      rw [hL] at hch
      obtain ⟨arr,E,fz,c3,c4,c5,c6⟩:=hch
      exact ⟨arr,E,fz,hx.F _ _ c3,c4,c5,λi hi=>bO hx.F _ _ _ (c6 i hi)⟩
    |cells vs=>
     simp only [eG] at hch⊢
     obtain ⟨L',hL,c1,c2,arr,E,c3,c4,c5,c6,c7⟩:=hch
     have hne:=hblk L' hL rfl
     exact ⟨L',by rw [hs];exact hL,hFn _ hne c1,c2,arr,E,c3,c4,c5,SV.eH hx _ _ c6,c7⟩
  ·by_cases h1:c1=c
   ·subst h1
    simp only [Ctx.tf,if_true] at g1
    cases g1
    cases g3
   ·by_cases h2:c2=c
    ·subst h2
     simp only [Ctx.tf,if_true] at g2
     cases g2
     cases g4
    ·simp only [Ctx.tf,if_neg h1] at g1
     simp only [Ctx.tf,if_neg h2] at g2
     exact hm.apart _ _ _ _ _ _ g1 g2 g3 g4 g5 g6 g7
  ·simp only [Ctx.tf] at h
   split at h
   ·rename_i h1
    subst h1
    exact hU
   ·exact hm.FU b o' h
def JH (k j:Nat) (s:bi):bi:=⟨true,λd args hp=>match args.getD k .fY with
 |.agg vs=>match vs.getD j .fY with
  |.own c e=>match dZ hp c e with
   |some (.row t xs)=>(s.f d args (cG hp [(c,⟨e,.frz t xs⟩)])).map (Out.after [(c,⟨e,.frz t xs⟩)])
   |some _=>s.f d args hp
   |none=>.fail
  |_=>s.f d args hp
 |_=>s.f d args hp⟩
theorem JG {P:Program} {f:FuncId} {s:bi} {k j:Nat} (h:aa P f s):aa P f (JH k j s):=by
 refine ⟨λR w d args vs out hm hr hrun=> ?_⟩
 simp only [JH] at hrun
 split at hrun
 ·split at hrun
  ·rename_i c e hce
   split at hrun
   ·rename_i t xs hc
    obtain ⟨out',h1,rfl⟩:=OT.run_map hrun
    obtain ⟨R1,ha⟩:=Ny hm (bP hc)
    rw [<-show R1.hp=cG R.hp [(c,⟨e,.frz t xs⟩)] from ha.hp] at h1
    have hr1:SV.bx R1 args vs:=SV.eH ha.ext _ _ hr
    have hpost:∀ en w',ik R1 out' en w'->ik R (Out.after [(c,⟨e,.frz t xs⟩)] out') en w':=λen w' hp=>by
     cases out' with
     |ret q=>
      obtain ⟨v,R',h2,h3,h4⟩:=hp
      exact ⟨v,R',h2,ha.trans h3,h4⟩
     |pan q u=>
      obtain ⟨v,R',h2,h3,h4⟩:=hp
      exact ⟨v,R',h2,ha.trans h3,h4⟩
    rcases h.calls R1 w d _ vs out' ha.mem hr1 h1 with ⟨fn,f1,f2,f3,hcl⟩|⟨v,w',hv,hp⟩
    ·exact .inl ⟨fn,f1,f2,f3,hcl.mono hpost⟩
    ·exact .inr ⟨v,w',hv,hpost _ _ hp⟩
   ·exact h.calls R w d args vs out hm hr hrun
   ·cases hrun
  ·exact h.calls R w d args vs out hm hr hrun
 ·exact h.calls R w d args vs out hm hr hrun
theorem yJ {s:bi} {k j:Nat} (h:au s):au (JH k j s):=λd args hp hp' out hg hrun=>by
 simp only [JH] at hrun⊢
 split at hrun
 ·split at hrun
  ·split at hrun
   ·rename_i t xs hc
    rw [bM hg hc]
    simp only
    obtain ⟨out',h1,rfl⟩:=OT.run_map hrun
    refine Df (h d _ _ _ out' ⟨λn ch hn=> ?_,λn hn hn0=> ?_⟩ h1)
    ·simp only [cG] at hn⊢
     split
     ·rename_i h2;rw [if_pos h2] at hn;exact hn
     ·rename_i h2;rw [if_neg h2] at hn;exact hg.mj _ _ hn
    ·simp only [cG] at hn0⊢
     split
     ·rename_i h2;rw [if_pos h2] at hn0;cases hn0
     ·rename_i h2;rw [if_neg h2] at hn0;exact hg.free _ hn hn0
   ·rename_i b hnr hc
    rw [bM hg hc]
    cases b<;>first|exact h _ _ _ _ _ hg hrun|exact absurd rfl (hnr _ _)
   ·cases hrun
  ·exact h _ _ _ _ _ hg hrun
 ·exact h _ _ _ _ _ hg hrun
end Sx
end
section
namespace Sx
open Go
section
variable {P:Program} {te:TE} {Φ:Env} (hte:kH P te) (hΦ:nW P Φ) (hany:FP P te Φ)
include hte hΦ hany
omit hte hΦ hany
def vF:bi:=⟨false,λ_ args hp=>match args with
 | [.own c e]=>match dZ hp c e with
  |some (.row .u8 xs)=>.br (decide (0<xs.length)) (.ok (.ret ⟨.clip c e,[]⟩)) .fail
  |_=>.fail
 |_=>.fail⟩
theorem ath:au vF:=λd args hp hp' out hg hrun=>by
 simp only [vF] at hrun⊢
 split at hrun
 ·split at hrun
  ·rename_i xs hx
   simp only [bM hg hx]
   exact hrun
  ·cases hrun
 ·cases hrun
include hte hΦ hany
theorem aEM {f:FuncId} {fn:Func} {c:Code} (hf:P.funcs[f]? =some fn) (hb:fn.body=some c) (hname:(fn.name== "runtime.NumGoroutine")=false) (hΛ:∀ R,rH P R fC c) {n:Nat}
 (h:∀ (hp:Hp) (c e:Nat) (xs:List UInt8) (K:SV->Hp->Prop),dZ hp c e=some (.row .u8 xs)->0<xs.length->K (.clip c e) hp->wpf te Φ fC n fn [.own c e] hp K (λ_ _=>False)):aa P f vF:=by
 refine ⟨λR w d args vs out hm hr hrun=>.inl ⟨fn,hf,hname,by rw [hb];rfl,?_⟩⟩
 simp only [vF] at hrun
 split at hrun
 ·split at hrun
  ·rename_i c e _ xs hx
   cases hlen:decide (0<xs.length)
   ·rw [hlen] at hrun;cases hrun
   rw [hlen] at hrun
   cases hrun
   refine (GN (R:=R.put []) (n:=n) (K:=λv hp=>v=.clip c e/\hp=R.hp) (Kp:=λ_ _=>False) hte hΦ hany hf hb (hΛ _) rfl (aaN _ hm) (F3 _ hr) (h _ _ _ xs _ hx (bh hlen) ⟨rfl,rfl⟩)).mono λen w' hp=> ?_
   rcases hp with ⟨x,v,R₁,rfl,hx1,hm1,hv,rfl,hy⟩|⟨x,v,R₁,rfl,hx1,hm1,hv,hy⟩
   ·exact ⟨v,_,rfl,apL (l:= []) ⟨hx1,hy,hm1⟩,apK _ hv⟩
   ·exact hy.elim
  ·cases hrun
 ·cases hrun
end
theorem gi {te:TE} {Φ:Env} {ops:List Oper} {K:SE->St->Prop} {o:Oper} {r:List Oper} {tm tm':List SV} {hp:Hp} (v:SV) (hg:guarded ops tm o=some true) (hc:(Ly te Φ hp (o.dst.getD 100000) (St.eval ⟨tm,hp⟩) o.op).run=some (.ret ⟨v,[]⟩))
 (ht:CQ ⟨tm,hp⟩ o.dst v=tm') (h:gV te Φ ops K r ⟨tm',hp⟩):gV te Φ ops K (o::r) ⟨tm,hp⟩:=by
 subst ht
 simp only [gV,hg]
 exact OT.iH hc h
theorem aCm {te:TE} {Φ:Env} {Λ:Lam} {n i j:Nat} {a b:Array Oper} {st:St} {K:SE->St->Prop}:wps te Φ Λ (n+3) (.seq (.region i a false) (.seq (.region j b false) .ret)) st K=
 mq te Φ a.toList (λe st=>match e with
  |.normal=>mq te Φ b.toList (λe st=>match e with
   |.normal=>K .ret st
   |e=>K e st) b.toList st
  |e=>K e st) a.toList st:=rfl
end Sx
end
section
namespace Sx
open Go
def axQ (args:List SV) (hp:Hp) (a k:Nat):Option Bool:=match args.getD a .fY with
 |.ptr c _ _ off=>match hp c with
  |some ⟨_,.cells vs⟩=>match vs.getD (off+k) .fY with
   |.lst _ _=>some true
   |_=>some false
  |_=>none
 |_=>none
theorem abF {d:Nat} {hp hp':Hp} (hg:Grown d hp hp') {args:List SV} {a k:Nat} {t:Bool} (h:axQ args hp a k=some t):axQ args hp' a k=some t:=by
 unfold axQ at h⊢
 split at h
 ·split at h
  ·rename_i e vs hc
   rw [hg.mj _ _ hc]
   exact h
  ·cases h
 ·cases h
def ank (a k:Nat) (s0 s1:bi):bi:=⟨s0.mod||s1.mod,λd args hp=>match axQ args hp a k with
 |some t=>cond t (s1.f d args hp) (s0.f d args hp)
 |none=>.fail⟩
theorem ahM {P:Program} {f:FuncId} {a k:Nat} {s0 s1:bi} (h0:aa P f s0) (h1:aa P f s1):aa P f (ank a k s0 s1):=by
 refine ⟨λR w d args vs out hm hr hrun=> ?_⟩
 simp only [ank] at hrun
 split at hrun
 ·rename_i t ht
  cases t
  ·exact h0.calls R w d args vs out hm hr hrun
  ·exact h1.calls R w d args vs out hm hr hrun
 ·cases hrun
theorem N4 {a k:Nat} {s0 s1:bi} (h0:au s0) (h1:au s1):au (ank a k s0 s1):=λd args hp hp' out hg hrun=>by
 simp only [ank] at hrun⊢
 split at hrun
 ·rename_i t ht
  rw [abF hg ht]
  dsimp only
  cases t
  ·exact h0 d args hp hp' out hg hrun
  ·exact h1 d args hp hp' out hg hrun
 ·cases hrun
end Sx
end
end Go.Proofs.YthnnknnbfhkomaaGreat
