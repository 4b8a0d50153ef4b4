/- A symbolic machine for Go code over plain data, and functions of the program as it shows them. No statement is proved in this file. -/
import Derived.ProofKit
import Derived.Below
import Derived.OpenShut
import Derived.SizedLaws
import Derived.WalkKit
import Derived.ChangeOld
import Derived.Test.YthnnknnbfhkomaaGreatXa
set_option linter.unusedSimpArgs false
set_option linter.unusedVariables false
set_option linter.unusedSectionVars false
namespace Go.Proofs.YthnnknnbfhkomaaGreat
section
namespace Sx
open Go
def iH (R:Ctx):Out->Ending->World->Prop
 |.ret e,en,w'=>∃ v R',en=.returned v/\dL R R' w' e.upd/\SV.rel R' e.v v
 |.pan sv u,en,w'=>∃ v R',en=.panicked [{v,recovered:=false}]/\dL R R' w' u/\SV.rel R' sv v
def aGJ (P:Program) (f:FuncId) (vs:Array Value) (w:World) (Q:Ending->World->Prop):Prop:=
 (∃ fn,P.funcs[f]? =some fn/\(fn.name== "runtime.NumGoroutine")=false/\fn.body.isNone=false/\Calls P f vs w Q)\/
 ∃ v w',(callFunc f vs).run P w=.ok (.value v) w'/\Q (.returned v) w'
structure aa (P:Program) (f:FuncId) (s:bx):Prop where
 calls:∀ (R:Ctx) (w:World) (d:Nat) (args:List SV) (vs:List Value) (out:Out),cz R w->SV.bz R args vs->(s.f d args R.hp).run=some out->aGJ P f vs.toArray w (iH R out)
def oa (P:Program) (Φ:Env):Prop:=∀ f s,Φ f=some s->aa P f s
section
variable {P:Program} {R:Ctx} {w:World}
theorem Wg {x:SV} {i:Int} {v:Value} (h:idxOf x=some i) (hx:SV.rel R x v):∃ kd,v=.int kd i:=by
 unfold idxOf at h
 split at h
 ·grind [SV.rel]
 ·cases h
  exact ⟨_,hx⟩
 ·cases h
  exact ⟨_,hx⟩
 grind
theorem aly:∀ {ms:List (String×FuncId)} {name:String} {f:FuncId},ags ms name=some f->(name,f) ∈ ms
 :=by intro t;induction t<;>grind [ags,List.mem_cons_of_mem,List.mem_cons_self]
theorem alx {te:TE} (hte:kq P te) {t:TypeId} {name:String} {f:FuncId} (h:aqu te t name=some f) (y:Value) (n:Nat) (hn:n=P.types.size+Made.depth):(method n t y name).run P w=.ok (f,y) w:=by
 unfold aqu at h
 split at h
 ·rename_i sz by' ms ze ty hT
  obtain ⟨d,hu,hd⟩:=(hte t _ hT).desc
  obtain ⟨⟨e,rfl⟩,hm⟩:=hd
  obtain ⟨i,m,h1,h2,h3,h4⟩:=hm _ (aly h)
  subst hn
  have hfuel:P.types.size+Made.depth=(P.types.size+Made.depth-1)+1:=by
   rfl
  rw [hfuel]
  simp [method,typeInfo,h1,h2,h3,h4,follow,receiverAt,run_underlying hu,Place.get]
 grind
theorem kn {st:St} {a:Act} (h:iT R st a w) (x:Operand):SV.rel R (st.eval x) (a.eval x):=by
 cases x with
 |tmp t=>
  simp [St.eval,Act.eval]
  have hl:=SV.aN h.tm
  by_cases ht:t<st.tm.length
  ·have ht':t<a.tmps.size:=by grind
   have:=SV.ni h.tm t ht (by omega)
   grind
  grind [SV.rel]
 |const v=>
  simp only [St.eval,Act.eval,aDo]
  split
  ·grind [SV.rel,xS,fX]
  simp [M0]
 |global g=>simp [St.eval,SV.rel]
 |func f=>
  simp [St.eval,Act.eval,SV.rel,SV.bz]
theorem QW {α β:Type} (f:α->β) (xs:Array α):Array.map f xs=(xs.toList.map f).toArray:=by grind
theorem Ia {st:St} {a:Act} (h:iT R st a w):∀ (l:List Operand),SV.bz R (l.map st.eval) (l.map a.eval)
 | []=>by rfl
 |x::l=>by
  exact ⟨_,_,rfl,kn h x,Ia h l⟩
theorem Vb {st:St} {a:Act} (h:iT R st a w) (ps:Array (Nat×Operand)):SZ R (ps.toList.map λp=>(p.1,st.eval p.2)) (ps.map λ(i,x)=>(i,a.eval x)).toList:=by
 refine ⟨by simp,λi hi hi'=> ?_⟩
 grind [kn]
theorem bG {x:OT SV} {o:Out} (h:(jc x).run=some o):∃ z,x.run=some z/\o=.ret ⟨z,[]⟩:=by
 obtain ⟨z,h1,h2⟩:=OT.run_map h
 grind
theorem qD {x:OT Eff} {o:Out} (h:(eff x).run=some o):∃ e,x.run=some e/\o=.ret e:=by
 obtain ⟨z,h1,h2⟩:=OT.run_map h
 grind
def auA (R:Ctx) (a:Act) (dst:Option Tmp) (out:Out) (next:Act->World->Prop) (Q:Exit->Act->World->Prop):Prop:=
 match out with
 |.ret e=>∀ R' w' v,dL R R' w' e.upd->SV.rel R' e.v v->next (a.put dst v) w'
 |.pan sv u=>∀ R' w' v,dL R R' w' u->SV.rel R' sv v->Q (.panic [{v,recovered:=false}]) a w'
theorem eI {o:Oper} {a:Act} {z:SV} {next:Act->World->Prop} {Q:Exit->Act->World->Prop} {s:Sem Value} (hm:cz R w) (hs:execOp a.eval o=do pure (.value (<-s))) (h:lq P R w s z)
 (hn:auA R a o.dst (.ret ⟨z,[]⟩) next Q):o.wp P a w next Q:=by
 obtain ⟨v,h1,h2⟩:=h
 unfold Oper.wp
 rw [hs]
 simp [h1]
 exact hn R w v (dL.nothing hm) h2
theorem m9 {o:Oper} {a:Act} {e:Eff} {next:Act->World->Prop} {Q:Exit->Act->World->Prop} {s:Sem Value} (hs:execOp a.eval o=do pure (.value (<-s))) (h:LP P R w s e)
 (hn:auA R a o.dst (.ret e) next Q):o.wp P a w next Q:=by
 obtain ⟨v,w',R',h1,h2,h3⟩:=h
 unfold Oper.wp
 rw [hs]
 simp [h1]
 exact hn R' w' v h2 h3
theorem Bi (hm:cz R w) {te:TE} (hte:kq P te) {T:TypeId} {ti:TI} (hT:te T=some ti) {x:SV} {v:Value} {cs:List SV} (hx:SV.rel R x v) (h:(Sx.loadCells R.hp ti.size x).run=some cs):
 ∃ ad,v=.pointer (some ad)/\lq P R w (loadVar T ad) (rG ti.desc.agg cs):=by
 have ht:=hte T ti hT
 obtain ⟨b,o,arr,E,fz,rfl,hb,hsz,hr,hone⟩:=Jn hm hx h
 refine ⟨_,rfl,?_⟩
 cases ha:ti.desc.agg
 ·have h1:=ht.one ha
  rw [h1] at hsz hr
  refine ⟨arr[o],?_,aqt hsz hr⟩
  simp only [loadVar,Sem.run_bind,ht.H2 w,ha]
  exact Ur hb hsz
 ·refine ⟨_,?_,Bf hr hone⟩
  simp [loadVar,ht.H2 w,ha,ht.run_sizeOf w,EZ hb hsz]
theorem wL (hm:cz R w) {te:TE} (hte:kq P te) {T:TypeId} {ti:TI} (hT:te T=some ti) {x y:SV} {v u:Value} {l:List SV} {up:List (Nat×Ch)} (hx:SV.rel R x v) (hy:SV.rel R y u) (hl:y.cells=some l)
 (hsz:l.length=ti.size) (h:(Sx.storeCells R.hp l x).run=some up):∃ ad w' R',v=.pointer (some ad)/\(storeVar T ad u).run P w=.ok () w'/\dL R R' w' up:=by
 have ht:=hte T ti hT
 obtain ⟨vs,h1,h2,h3⟩:=Ib hy hl
 have hlen:=SV.aN h2
 obtain ⟨ad,w',R',rfl,h4,h5⟩:=F0 (P:=P) hm hx h2 h
 refine ⟨ad,w',R',rfl,?_,h5⟩
 simp [storeVar,ht.run_sizeOf w]
 grind
theorem mc {te:TE} {Φ:Env} (hte:kq P te) (hΦ:oa P Φ) {st:St} {a:Act} {o:Oper} {d:Nat} {out:Out} (hst:iT R st a w) (h:(L9 te Φ st.hp d st.eval o.op).run=some out)
 {next:Act->World->Prop} {Q:Exit->Act->World->Prop} (hn:auA R a o.dst out next Q):o.wp P a w next Q:=by
 have hm:=hst.mem
 have ev:=kn hst
 rw [<-hst.hp] at h
 obtain ⟨dst,op,type,pos,after,guard⟩:=o
 simp only at h hn
 cases op<;>simp only [L9] at h<;>try (cases h;done)
 case move x=>
  obtain ⟨z,h1,rfl⟩:=bG h
  cases h1
  exact hn R w _ (dL.nothing hm) (ev x)
 case assign x=>
  obtain ⟨z,h1,rfl⟩:=bG h
  cases h1
  exact hn R w _ (dL.nothing hm) (ev x)
 case pick c x y=>
  split at h
  ·rename_i b hb
   obtain ⟨z,h1,rfl⟩:=bG h
   have hc:=ev c
   rw [hb] at hc
   simp only [SV.rel] at hc
   have hrun:(execOp a.eval (Oper.mk dst (.pick c x y) type pos after guard)).run P w=.ok (.value (if b then a.eval x else a.eval y)) w:=by
    simp [execOp,hc,asBool]
   unfold Oper.wp
   rw [hrun]
   cases b
   ·cases h1;exact hn R w _ (dL.nothing hm) (ev y)
   ·cases h1;exact hn R w _ (dL.nothing hm) (ev x)
  ·cases h
 case alloc T=>
  split at h
  ·rename_i ti hT
   obtain ⟨e,h1,rfl⟩:=qD h
   have ht:=hte T ti hT
   obtain ⟨i,z,z1,z2,z3,z4,z5,z6,z7⟩:=ht.uD (R:=R)
   obtain ⟨ad,w',R',r1,r2,r3⟩:=Fh (P:=P) hm (v:=z) (vs:=z.cells.toList) (by simp) z5 z7 (by have:=ht.small;simp [z6,cL];omega) h1
   refine m9 rfl ⟨_,w',R',?_,r2,r3⟩ hn
   simp only [Instr.alloc,Sem.run_bind,zeroValue,typeInfo,run_program,Result.andThen_ok,z1,z4,Sem.run_pure,r1]
  ·cases h
 case box T x=>
  split at h
  ·rename_i l hl
   obtain ⟨e,h1,rfl⟩:=qD h
   obtain ⟨vs,v1,v2,v3⟩:=Ib (ev x) hl
   have hlen:=SV.aN v2
   have hsz:l.length<=16777216:=by
    unfold Sx.newVar at h1
    split at h1
    ·cases h1
    ·rename_i ti hT
     split at h1
     ·cases h1
     ·rename_i hh
      have:=(hte T ti hT).small
      have hh:l.length=ti.size:=by simpa using hh
      omega
   obtain ⟨ad,w',R',r1,r2,r3⟩:=Fh (P:=P) hm (v:=a.eval x) (vs:=vs) v1 v2 v3 (by unfold cL;omega) h1
   refine m9 rfl ⟨_,w',R',?_,r2,r3⟩ hn
   simp only [Instr.box,Sem.run_bind,Sem.run_pure,Result.andThen_ok,r1]
  ·cases h
 case build T ps=>
  obtain ⟨z,h1,rfl⟩:=bG h
  exact eI hm rfl (adK hte h1 (Vb hst ps)) hn
 case buildSlice T len ps=>
  obtain ⟨e,h1,rfl⟩:=qD h
  exact m9 rfl (F8 hm hte h1 (Vb hst ps)) hn
 case load T x=>
  split at h
  ·rename_i ti hT
   obtain ⟨z,h1,rfl⟩:=bG h
   obtain ⟨cs,h2,rfl⟩:=OT.run_map h1
   obtain ⟨ad,hv,hg⟩:=Bi (P:=P) hm hte hT (ev x) h2
   refine eI hm rfl ?_ hn
   obtain ⟨v,g1,g2⟩:=hg
   refine ⟨v,?_,g2⟩
   simp only [Instr.loadAt,hv,Instr.sureAddr,Sem.run_bind,Sem.run_pure,Result.andThen_ok,g1]
  ·cases h
 case store T x y=>
  split at h
  ·rename_i ti hT
   split at h
   ·rename_i l hl
    split at h
    ·rename_i hsz
     obtain ⟨u,h1,rfl⟩:=OT.run_map h
     obtain ⟨ad,w',R',hv,g1,g2⟩:=wL (P:=P) hm hte hT (ev x) (ev y) hl hsz h1
     have hrun:(execOp a.eval (Oper.mk dst (.store T x y) type pos after guard)).run P w=.ok .skip w':=by
      simp only [execOp,Instr.storeAt,hv,Instr.sureAddr,Sem.run_bind,Sem.run_pure,Result.andThen_ok,g1]
     unfold Oper.wp
     rw [hrun]
     exact hn R' w' _ g2 (by simp only [SV.rel])
    ·cases h
   ·cases h
  ·cases h
 case nilCheck x=>
  have hx:=ev x
  have hrun:∀ ad,a.eval x=.pointer (some ad)->(execOp a.eval (Oper.mk dst (.nilCheck x) type pos after guard)).run P w=.ok (.value (a.eval x)) w:=λad hv=>by
   simp [execOp,hv]
  split at h
  ·rename_i c e i off hs
   obtain ⟨z,h1,rfl⟩:=bG h
   cases h1
   rw [hs] at hx
   have hx':=hx
   simp only [SV.rel] at hx
   obtain ⟨⟨ad,hv⟩,_⟩:=hx
   unfold Oper.wp
   rw [hrun ad hv]
   exact hn R w _ (dL.nothing hm) hx'
  ·rename_i t xs i off hs
   obtain ⟨z,h1,rfl⟩:=bG h
   cases h1
   rw [hs] at hx
   have hx':=hx
   simp only [SV.rel] at hx
   obtain ⟨_,b,o,arr,E,fz,hv,_⟩:=hx
   unfold Oper.wp
   rw [hrun _ hv]
   exact hn R w _ (dL.nothing hm) hx'
  ·rename_i t y hs
   obtain ⟨z,h1,rfl⟩:=bG h
   cases h1
   rw [hs] at hx
   have hx':=hx
   simp only [SV.rel] at hx
   obtain ⟨y',hv,_⟩:=hx
   have hrun2:(execOp a.eval (Oper.mk dst (.nilCheck x) type pos after guard)).run P w=.ok (.value (a.eval x)) w:=by simp [execOp,hv]
   unfold Oper.wp
   rw [hrun2]
   exact hn R w _ (dL.nothing hm) hx'
  ·cases h
 case binOp op T x y T2=>
  split at h
  ·rename_i hy
   obtain ⟨z,h1,rfl⟩:=bG h
   have hy':∃ n c,a.eval y=.slice none n c:=by
    unfold NP at hy
    split at hy
    ·exact ⟨_,_,rfl⟩
    ·cases hy
   obtain ⟨n,c,hyv⟩:=hy'
   obtain ⟨⟨q,l,k,hxv⟩,u,hu1,hu2⟩:=QF (P:=P) (w:=w) hte h1 (ev x) ⟨n,c,hyv⟩
   exact eI hm rfl ⟨u,gx (X:=x) (Y:=y) (by rw [hxv,hyv];simp [eqGuard]) hu1,hu2⟩ hn
  ·obtain ⟨z,h1,rfl⟩:=bG h
   exact eI hm rfl (Yi hte h1 (ev x) (ev y)) hn
 case sliceToArrayPointer T x=>
  obtain ⟨z,h1,rfl⟩:=bG h
  exact eI hm rfl (MB hte h1 (ev x)) hn
 case unOp op T x=>
  obtain ⟨z,h1,rfl⟩:=bG h
  exact eI hm rfl (aj7 h1 (ev x)) hn
 case convert src dst' x=>
  split at h
  ·rename_i s hs
   obtain ⟨z,h1,rfl⟩:=bG h
   cases h1
   obtain ⟨u,w',R',r1,r2,r3⟩:=Su (P:=P) hm hte hs (ev x)
   exact m9 rfl ⟨u,w',R',r1,r2,r3⟩ hn
  ·split at h
   ·rename_i hs
    obtain ⟨z,h1,rfl⟩:=qD h
    cases h1
    exact m9 rfl (F6 (P:=P) hm hte hs (ev x)) hn
   ·obtain ⟨z,h1,rfl⟩:=bG h
    exact eI hm rfl (Sf hte h1 (ev x)) hn
 case makeInterface T x=>
  split at h
  ·rename_i ti hT
   obtain ⟨ds,hu,hd⟩:=(hte T ti hT).desc
   have hmk:∀ y:Value,(Instr.makeInterface T y).run P w=.ok (.iface T y) w\/(match ti.desc with|.iface=>True|.other=>True|_=>False):=λy=>by
    unfold Instr.makeInterface
    simp only [Sem.run_bind,run_underlying hu,Result.andThen_ok]
    cases hk:ti.desc<;>rw [hk] at hd<;>simp only at hd<;>first
     |(exact .inr trivial;done)
     |(left;obtain ⟨_,rfl,_⟩:=hd;rfl)
     |(left;obtain ⟨⟨_,rfl⟩,_⟩:=hd;rfl)
     |(left;subst hd;rfl)
   have hq:¬(match ti.desc with|.iface=>True|.other=>True|_=>False):=λhq=>by
    cases hk:ti.desc<;>rw [hk] at hq h<;>first|exact hq|(simp only at h;cases h)
   have h2:(jc (.ok (.iface T (st.eval x)))).run=some out:=by
    cases hk:ti.desc<;>rw [hk] at h hq<;>first|exact h|(exact absurd trivial hq)
   obtain ⟨z,h1,rfl⟩:=bG h2
   cases h1
   refine eI hm rfl ⟨.iface T (a.eval x),(hmk _).resolve_right hq,?_⟩ hn
   simp only [SV.rel]
   exact ⟨_,rfl,ev x⟩
  ·cases h
 case makeFunc f first caps=>
  obtain ⟨z,h1,rfl⟩:=bG h
  cases h1
  refine eI hm rfl ⟨_,rfl,?_⟩ hn
  simp only [SV.rel]
  exact ⟨first.toList.map a.eval,caps.toList.map a.eval,by rw [QW,QW],Ia hst _,Ia hst _⟩
 case makeSlice T l c=>
  split at h
  ·rename_i l' c' hl hc
   obtain ⟨e,h1,rfl⟩:=qD h
   have e1:=ev l
   have e2:=ev c
   rw [hl] at e1
   rw [hc] at e2
   simp only [SV.rel] at e1 e2
   have:=Jf (P:=P) hm hte h1
   rw [<-e1.1,<-e2.1] at this
   exact m9 rfl this hn
  ·cases h
 case slice T x lo hi mx=>
  obtain ⟨z,h1,rfl⟩:=bG h
  have some_rel:∀ (q:Option Operand) (y:SV),q.map st.eval=some y->∃ v,q.map a.eval=some v/\SV.rel R y v:=λq y hy=>by
   cases q with
   |none=>cases hy
   |some u=>cases hy;exact ⟨_,rfl,ev u⟩
  have none_rel:∀ (q:Option Operand),q.map st.eval=none->q.map a.eval=none:=λq hq=>by
   cases q with
   |none=>rfl
   |some u=>cases hq
  exact eI hm rfl (PZ hm hte h1 (ev x) (some_rel lo) (none_rel lo) (some_rel hi) (none_rel hi) (some_rel mx) (none_rel mx)) hn
 case fieldAddr S x f=>
  split at h
  ·rename_i fs _ _ hS
   split at h
   ·rename_i o fi hf
    split at h
    ·cases h
    ·rename_i h0
     obtain ⟨z,h1,rfl⟩:=bG h
     exact eI hm rfl (Kt hte hS rfl hf h0 h1 (ev x)) hn
   ·cases h
  ·cases h
 case field S x f=>
  split at h
  ·rename_i fs _ _ l hS hl
   split at h
   ·rename_i o fi hf
    split at h
    ·rename_i hle
     obtain ⟨z,h1,rfl⟩:=bG h
     cases h1
     have hx:=ev x
     rw [hl] at hx
     exact eI hm rfl (acW hte hS rfl hf hle hx) hn
    ·cases h
   ·cases h
  ·cases h
 case indexAddr T x k=>
  split at h
  ·rename_i i hk
   obtain ⟨z,h1,rfl⟩:=bG h
   obtain ⟨kd,e1⟩:=Wg hk (ev k)
   have:=JL (P:=P) (w:=w) (kd:=kd) hte h1 (ev x)
   rw [<-e1] at this
   exact eI hm rfl this hn
  ·cases h
 case index T x k=>
  split at h
  ·rename_i i hk
   obtain ⟨z,h1,rfl⟩:=bG h
   obtain ⟨kd,e1⟩:=Wg hk (ev k)
   have:=Mr (P:=P) (w:=w) (kd:=kd) hte h1 (ev x)
   rw [<-e1] at this
   exact eI hm rfl this hn
  ·cases h
 case panic x=>
  split at h
  ·rename_i t v hx
   cases h
   have hv:=ev x
   rw [hx] at hv
   have hv':=hv
   simp only [SV.rel] at hv'
   obtain ⟨y,hy,_⟩:=hv'
   unfold Oper.wp
   have hrun:(execOp a.eval (Oper.mk dst (.panic x) type pos after guard)).run P w=.halt (.panic (.iface t y)) w:=by
    simp only [execOp,hy]
    rfl
   rw [hrun,Oper.upon_panic]
   rw [hy] at hv
   exact hn R w _ (dL.nothing hm) hv
  ·cases h
 case extract t i=>
  split at h
  ·rename_i l hl
   split at h
   ·rename_i v hv
    obtain ⟨z,h1,rfl⟩:=bG h
    cases h1
    have hx:=ev t
    rw [hl] at hx
    simp only [SV.rel] at hx
    obtain ⟨vs,he,hr⟩:=hx
    have hlen:=SV.aN hr
    obtain ⟨hi,hvi⟩:=List.getElem?_eq_some_iff.1 hv
    refine eI hm rfl ⟨vs[i]'(by omega),?_,?_⟩ hn
    ·simp [Instr.extract,he,show i<vs.length by omega]
    ·rw [<-hvi];exact SV.ni hr i hi (by omega)
   ·cases h
  ·cases h
 case call c=>
  obtain ⟨callee,args,argTypes⟩:=c
  simp only at h
  have hargs:=Ia hst args.toList
  have go:∀ (f':FuncId) (s:bx) (us:List SV) (l:List Value),Φ f'=some s->SV.bz R us l->(s.f d us R.hp).run=some out->
   (∀ r,(execOp a.eval (Oper.mk dst (.call {callee:=callee,args,argTypes}) type pos after guard)).run P w=r ↔ (callFunc f' l.toArray).run P w=r)->(Oper.mk dst (.call {callee:=callee,args,argTypes}) type pos after guard).wp P a w next Q:=by
   intro f' s us l hs hr hout hexec
   have hc:=(hΦ _ _ hs).calls R w d us l out hm hr hout
   rcases hc with ⟨fn,f1,f2,f3,hc⟩|⟨v,w',hv,hp⟩
   ·have hrun:(callFunc f' l.toArray).run P w=.ok (.enter f' l.toArray) w:=by
     have f2':¬fn.name= "runtime.NumGoroutine" :=by simpa using f2
     have f3':¬fn.body=none:=λe=>by rw [e] at f3;simp at f3
     simp [callFunc,f1,f2',f3']
    unfold Oper.wp
    rw [(hexec _).2 hrun,Oper.upon_enter]
    refine hc.mono λen w' hp=> ?_
    cases out with
    |ret e=>
     obtain ⟨v,R',rfl,p1,p2⟩:=hp
     exact hn R' w' v p1 p2
    |pan sv u=>
     obtain ⟨v,R',rfl,p1,p2⟩:=hp
     exact hn R' w' v p1 p2
   ·unfold Oper.wp
    rw [(hexec _).2 hv]
    cases out with
    |ret e=>
     obtain ⟨v',R',he,p1,p2⟩:=hp
     cases he
     exact hn R' w' v p1 p2
    |pan sv u=>
     obtain ⟨v',R',he,p1,p2⟩:=hp
     cases he
  split at h
  ·rename_i f
   unfold atg at h
   split at h
   ·rename_i f' first caps hf
    split at h
    ·rename_i s hs
     have hx:=ev f
     rw [hf] at hx
     simp only [SV.rel] at hx
     obtain ⟨l1,l2,he,r1,r2⟩:=hx
     refine go f' s _ (l1++args.toList.map a.eval++l2) hs (SV.bA (SV.bA r1 hargs) r2) h λr=> ?_
     have:(execOp a.eval (Oper.mk dst (.call {callee:=.value f,args,argTypes}) type pos after guard)).run P w=(callFunc f' (l1++args.toList.map a.eval++l2).toArray).run P w:=by
      simp [execOp,resolve,he,Deferred.ofValue,invoke,QW]
     rw [this]
    ·cases h
   ·cases h
  ·rename_i recv name
   unfold Ss at h
   split at h
   ·rename_i t v hv
    split at h
    ·rename_i f' hf
     split at h
     ·rename_i s hs
      have hx:=ev recv
      rw [hv] at hx
      simp only [SV.rel] at hx
      obtain ⟨y,he,hy⟩:=hx
      refine go f' s (v::args.toList.map st.eval) (y::args.toList.map a.eval) hs (by simp only [SV.bz];exact ⟨_,_,rfl,hy,hargs⟩) h λr=> ?_
      have hmeth:=alx (P:=P) (w:=w) hte hf y _ rfl
      have:(execOp a.eval (Oper.mk dst (.call {callee:=.invoke recv name,args,argTypes}) type pos after guard)).run P w=(callFunc f' (y::args.toList.map a.eval).toArray).run P w:=by
       have e1:(Array.map a.eval args)=(args.toList.map a.eval).toArray:=QW _ _
       have e2:(#[Value.iface t y]++(args.toList.map a.eval).toArray)[0]? =some (.iface t y):=by simp
       have e3:(#[Value.iface t y]++(args.toList.map a.eval).toArray).extract 1 (#[Value.iface t y]++(args.toList.map a.eval).toArray).size=(args.toList.map a.eval).toArray:=by
        apply Array.ext'
        simp only [Array.toList_extract,Array.toList_append,List.extract_eq_take_drop]
        simp
        exact List.take_of_length_le (by simp)
       have e4: #[y]++(args.toList.map a.eval).toArray=(y::args.toList.map a.eval).toArray:=by simp
       simp only [execOp,resolve,he,e1,Sem.run_bind,Sem.run_pure,Result.andThen_ok,invoke,e2,e3,callMethod,run_program,hmeth,e4]
      rw [this]
     ·cases h
    ·cases h
   ·cases h
  ·split at h
   ·rename_i x T Ts hax hat
    obtain ⟨z,h1,rfl⟩:=bG h
    have ha:args= #[x]:=by apply Array.ext';simpa using hax
    have hat':argTypes=(T::Ts).toArray:=by apply Array.ext';simpa using hat
    subst ha
    have:=abI (P:=P) (Tr:=type) (Ts:=Ts) hm hte h1 (ev x)
    rw [<-hat'] at this
    refine eI hm ?_ this hn
    simp [execOp,resolve,invoke,builtin]
   ·cases h
  ·split at h
   ·rename_i s x T T' hax hat
    split at h
    ·rename_i hsl
     obtain ⟨e,h1,rfl⟩:=qD h
     have ha:args= #[s,x]:=by apply Array.ext';simpa using hax
     have hat':argTypes= #[T,T']:=by apply Array.ext';simpa using hat
     subst ha
     subst hat'
     have:=MD (P:=P) (Tr:=type) hm hte hsl h1 (ev s) (ev x)
     refine m9 ?_ this hn
     simp [execOp,resolve,invoke,builtin]
    ·cases h
   ·cases h
  ·split at h
   ·rename_i s x T T' hax hat
    obtain ⟨e,h1,rfl⟩:=qD h
    have ha:args= #[s,x]:=by apply Array.ext';simpa using hax
    have hat':argTypes= #[T,T']:=by apply Array.ext';simpa using hat
    subst ha
    subst hat'
    have:=Xv (P:=P) (Tr:=type) (T':=T') hm hte h1 (ev s) (ev x)
    refine m9 ?_ this hn
    simp [execOp,resolve,invoke,builtin]
   ·cases h
  ·split at h
   ·rename_i x y hax
    split at h
    ·rename_i p q hp hq
     obtain ⟨z,h1,rfl⟩:=bG h
     cases h1
     have ha:args= #[x,y]:=by apply Array.ext';simpa using hax
     subst ha
     have e1:=ev x
     have e2:=ev y
     rw [hp] at e1
     rw [hq] at e2
     simp only [SV.rel] at e1 e2
     refine eI (s:=Builtin.max_ argTypes type #[a.eval x,a.eval y]) hm ?_ ?_ hn
     ·simp [execOp,resolve,invoke,builtin]
     ·refine cE ?_ ?_
      ·simp [Builtin.max_,e1.1,e2.1,Builtin.max2]
      ·split
       ·exact e2.2
       ·exact e1.2
    ·cases h
   ·cases h
  ·cases h
end
end Sx
end
section
namespace Sx
open Go
section
variable {P:Program} {te:TE} {Φ:Env}
structure o5 (R₀:Ctx) (K:SE->St->Prop) (Q:Exit->Act->World->Prop):Prop where
 normal:∀ R st a w,R₀.Ext R->iT R st a w->K .normal st->Q .normal a w
 ret:∀ R st a w,R₀.Ext R->iT R st a w->K .ret st->Q .ret a w
 exit:∀ R st a w id,R₀.Ext R->iT R st a w->K (.exit id) st->Q (.exit id) a w
 pan:∀ R st a w sv v,R₀.Ext R->iT R st a w->SV.rel R sv v->K (.pan sv) st->Q (.panic [{v,recovered:=false}]) a w
theorem iT.put {R R':Ctx} {st:St} {a:Act} {w w':World} {e:Eff} {v:Value} (h:iT R st a w) (ha:dL R R' w' e.upd) (hv:SV.rel R' e.v v) (dst:Option Tmp):iT R' (st.put dst e) (a.put dst v) w':=by
 refine ⟨?_,ha.mem,?_,?_⟩
 ·rw [ha.hp,h.hp];rfl
 ·have:=SV.eZ ha.ext _ _ h.tm
  cases dst with
  |none=>exact this
  |some d=>
   grind [St.put,C7,Act.put,Array.toList_setIfInBounds,SV.AS]
 ·rw [ha.ext.U];cases dst<;>exact h.defers
theorem iT.undef {R:Ctx} {st:St} {a:Act} {w:World} (h:iT R st a w) (dst:Option Tmp):iT R (st.put dst ⟨.undef,[]⟩) (a.put dst Go.undef) w:=
 h.put (dL.nothing h.mem) (by rfl) dst
theorem iT.TG {R R':Ctx} {st:St} {a:Act} {w w':World} {u:List (Nat×Ch)} (h:iT R st a w) (ha:dL R R' w' u):iT R' ⟨st.tm,cO st.hp u⟩ a w':=
 ⟨by rw [ha.hp,h.hp],ha.mem,SV.eZ ha.ext _ _ h.tm,by rw [ha.ext.U];exact h.defers⟩
theorem gg {R:Ctx} {st:St} {a:Act} {w:World} (h:iT R st a w) {ops:Array Oper} {o:Oper} {b:Bool} (hg:guarded ops.toList st.tm o=some b):Region.wanted o (yielded ops a.tmps)=b:=by
 unfold guarded at hg
 unfold Region.wanted
 split at hg
 ·grind
 ·rename_i j want hj
  rw [hj]
  simp only
  split at hg
  ·rename_i d hd
   have hd':(ops[j]?).bind (·.dst)=some d:=by simpa using hd
   have hl:=SV.aN h.tm
   have get:st.tm.getD d .gu≠ .gu->∃ hlt:d<a.tmps.size,SV.rel R (st.tm.getD d .gu) a.tmps[d]:=λhne=>by
    by_cases ht:d<st.tm.length
    ·have ht':d<a.tmps.size:=Nat.lt_of_lt_of_eq ht hl.symm
     refine ⟨ht',?_⟩
     have:=SV.ni h.tm d ht (by simpa using ht')
     grind
    grind
   split at hg
   ·rename_i q hq
    obtain ⟨hlt,hr⟩:=get (by rw [hq];exact λe=>by cases e)
    rw [hq] at hr
    simp only [SV.rel] at hr
    have hy:yielded ops a.tmps j=some q:=by
     grind [yielded]
    rw [hy,<-Option.some.inj hg]
    rfl
   ·grind [get,SV.rel,yielded,Go.undef,Option.some.inj]
   ·cases hg
  ·cases hg
theorem lA (hte:kq P te) (hΦ:oa P Φ) {R₀:Ctx} {ops:Array Oper} {K:SE->St->Prop} {Q:Exit->Act->World->Prop} (hK:o5 R₀ K Q):
 ∀ (l:List Oper) (R:Ctx) (st:St) (a:Act) (w:World),R₀.Ext R->iT R st a w->io te Φ ops.toList K l st->wpList P ops Q l a w
 | [],R,st,a,w,hx,hst,h=>hK.normal R st a w hx hst h
 |o::r,R,st,a,w,hx,hst,h=>by
  simp [io] at h
  split at h
  ·grind
  ·rename_i b hb
   have hw:=gg hst hb
   simp [wpList,hw]
   cases b
   ·exact lA hte hΦ hK r R _ _ w hx (hst.undef o.dst) h
   ·refine .inl ?_
    obtain ⟨out,h1,h2⟩:=OT.Hk h
    refine mc hte hΦ hst h1 ?_
    cases out with
    |ret e=>exact λR' w' v ha hv=>lA hte hΦ hK r R' _ _ w' (hx.trans ha.ext) (hst.put ha hv o.dst) h2
    |pan sv u=>exact λR' w' v ha hv=>hK.pan R' _ a w' sv v (hx.trans ha.ext) (hst.TG ha) hv h2
def Aj (P:Program) (R₀:Ctx) (b:Code) (l:St->(SE->St->Prop)->Prop):Prop:=
 ∀ (R:Ctx) (st:St) (a:Act) (w:World) (K:SE->St->Prop) (Q:Exit->Act->World->Prop),R₀.Ext R->iT R st a w->l st K->o5 R₀ K Q->b.wp P Q a w
def blocks:Code->List (Nat×Code)
 |.seq a b=>blocks a++blocks b
 |.cond _ a b=>blocks a++blocks b
 |.block id c=>(id,c)::blocks c
 |.loop c=>blocks c
 |.scope c=>blocks c
 |_=> []
def rJ (P:Program) (R₀:Ctx) (Λ:Lam) (c:Code):Prop:=∀ p ∈ blocks c,∀ l,Λ p.1=some l->Aj P R₀ (.block p.1 p.2) l
def Gi (P:Program) (te:TE) (Φ:Env):Prop:=∀ (R₀:Ctx) (id:Nat) (ops:Array Oper) (K:SE->St->Prop) (Q:Exit->Act->World->Prop) (R:Ctx) (st:St) (a:Act) (w:World),o5 R₀ K Q->R₀.Ext R->iT R st a w->
 e9 Φ ops (bitsOf ops)=true->gU te Φ ops.toList (bitsOf ops) (Wp te Φ ops (bitsOf ops) st) K st 0 ops.toList []->(Code.region id ops true).wp P Q a w
theorem Py {Λ:Lam} {n:Nat} {c:Code} {st:St} {K:SE->St->Prop}:wps te Φ Λ (n+1) c st K=(match c with
 |.skip=>K .normal st
 |.region _ ops draw=>cond draw (cond (e9 Φ ops (bitsOf ops)) (gU te Φ ops.toList (bitsOf ops) (Wp te Φ ops (bitsOf ops) st) K st 0 ops.toList []) False) (io te Φ ops.toList K ops.toList st)
 |.seq a b=>wps te Φ Λ n a st λe st'=>match e with
  |.normal=>wps te Φ Λ n b st' K
  |e=>K e st'
 |.cond c a b=>match st.eval c with
  |.bool t=>cond t (wps te Φ Λ n a st K) (wps te Φ Λ n b st K)
  |.azw=>(wps te Φ Λ n a st K)/\(wps te Φ Λ n b st K)
  |_=>False
 |.block id body=>match Λ id with
  |some l=>l st K
  |none=>wps te Φ Λ n body st λe st'=>match e with
   |.exit j=>cond (j==id) (K .normal st') (K (.exit j) st')
   |e=>K e st'
 |.loop body=>wps te Φ Λ n body st λe st'=>match e with
  |.normal=>wps te Φ Λ n (.loop body) st' K
  |e=>K e st'
 |.exit id=>K (.exit id) st
 |.ret=>K .ret st
 |_=>False):=by
 cases c<;>try rfl
 case region id ops draw=>
  simp only
  rw [<-ma,<-ac5]
  rfl
 case block id body=>
  have:∀ (e:SE) (st':St),(match e with
   |.exit j=>ifB (Nat.beq j id) (K .normal st') (K (.exit j) st')
   |e=>K e st')=(match e with
   |.exit j=>cond (j==id) (K .normal st') (K (.exit j) st')
   |e=>K e st'):=λe st'=>by
   cases e<;>try rfl
   rename_i j
   have hb:Nat.beq j id=(j==id):=by
    rw [Bool.eq_iff_iff]
    simp
   simp [We]
  show (match Λ id with
   |some l=>l st K
   |none=>wps te Φ Λ n body st λe st'=>match e with
    |.exit j=>ifB (Nat.beq j id) (K .normal st') (K (.exit j) st')
    |e=>K e st')=_
  simp_all
def aiE (P:Program) (c:Code) (Q:Exit->Act->World->Prop) (a:Act) (w:World):Prop:=
 ∀ (b:Frame) (k:List Item) (cs:List Frame),∃ e a' w',Q e a' w'/\Arrives P (lone (b.at a (.code c:: .inLoop c::k)) cs w) b k cs e a' w'
theorem ER {c:Code} {Q:Exit->Act->World->Prop} {a:Act} {w:World} (h:aiE P c Q a w):(Code.loop c).wp P Q a w:=
 λb k cs=>let ⟨e,a',w',hq,harr⟩:=h b k cs;⟨e,a',w',hq,.of_steps (.one step_loop) harr⟩
theorem Jm {c:Code} {Q:Exit->Act->World->Prop} {a:Act} {w:World} (h:c.wp P (λe a' w'=>match e with|.normal=>aiE P c Q a' w'|e=>Q e a' w') a w):aiE P c Q a w:=by
 intro b k cs
 obtain ⟨e,a₁,w₁,hq,harr⟩:=h b (.inLoop c::k) cs
 cases e with
 |normal=>
  obtain ⟨e₂,a₂,w₂,hq₂,harr₂⟩:=hq b k cs
  exact ⟨e₂,a₂,w₂,hq₂,.of_steps (Steps.trans harr (.one step_inLoop)) harr₂⟩
 |exit id|goto l|ret|panic ch|outgrown=>exact ⟨_,a₁,w₁,hq,.pass (x:=.inLoop c) rfl (by simp) harr⟩
def Shown (P:Program) (c:Code) (Q:Exit->Act->World->Prop) (a:Act) (w:World):Prop:=
 match c with
 |.loop body=>aiE P body Q a w
 |c=>c.wp P Q a w
theorem Shown.wp {c:Code} {Q:Exit->Act->World->Prop} {a:Act} {w:World} (h:Shown P c Q a w):c.wp P Q a w:=by
 cases c<;>first|exact h|exact ER h
theorem ix (hte:kq P te) (hΦ:oa P Φ) (hany:Gi P te Φ) {R₀:Ctx} {Λ:Lam}:∀ (n:Nat) (c:Code) (R:Ctx) (st:St) (a:Act) (w:World) (K:SE->St->Prop) (Q:Exit->Act->World->Prop),rJ P R₀ Λ c->
 R₀.Ext R->iT R st a w->wps te Φ Λ n c st K->o5 R₀ K Q->Shown P c Q a w
 |0,c,R,st,a,w,K,Q,_,_,_,h,_=>h.elim
 |n+1,c,R,st,a,w,K,Q,hΛ,hx,hst,h,hK=>by
  rw [Py] at h
  cases c<;>simp only at h<;>try rfl
  case skip=>exact wp_skip (hK.normal R st a w hx hst h)
  case region id ops draw=>
   cases draw
   ·exact wp_region_list (lA hte hΦ hK _ R st a w hx hst h)
   ·cases hr:e9 Φ ops (bitsOf ops)
    ·grind
    ·rw [hr] at h
     exact hany R₀ id ops K Q R st a w hK hx hst hr h
  case seq x y=>
   refine wp_seq (ix hte hΦ hany n x R st a w _ _ (λp hp=>hΛ p (by simp [blocks,hp])) hx hst h ⟨?_,?_,?_,?_⟩).wp
   ·exact λR' st' a' w' hx' hst' hk=>(ix hte hΦ hany n y R' st' a' w' K Q (λp hp=>hΛ p (by simp [blocks,hp])) hx' hst' hk hK).wp
   ·exact λR' st' a' w' hx' hst' hk=>hK.ret R' st' a' w' hx' hst' hk
   ·exact λR' st' a' w' id hx' hst' hk=>hK.exit R' st' a' w' id hx' hst' hk
   ·exact λR' st' a' w' sv v hx' hst' hv hk=>hK.pan R' st' a' w' sv v hx' hst' hv hk
  case cond c x y=>
   split at h
   ·rename_i t ht
    have hc:=kn hst c
    rw [ht] at hc
    simp only [SV.rel] at hc
    refine wp_cond hc ?_
    cases t
    ·exact (ix hte hΦ hany n y R st a w K Q (λp hp=>hΛ p (by simp [blocks,hp])) hx hst h hK).wp
    ·exact (ix hte hΦ hany n x R st a w K Q (λp hp=>hΛ p (by simp [blocks,hp])) hx hst h hK).wp
   ·rename_i ht
    have hc:=kn hst c
    rw [ht] at hc
    obtain ⟨t,hc⟩:=hc
    refine wp_cond hc ?_
    cases t
    ·exact (ix hte hΦ hany n y R st a w K Q (λp hp=>hΛ p (by simp [blocks,hp])) hx hst h.2 hK).wp
    ·exact (ix hte hΦ hany n x R st a w K Q (λp hp=>hΛ p (by simp [blocks,hp])) hx hst h.1 hK).wp
   grind
  case block id body=>
   split at h
   ·rename_i l hl
    exact hΛ (id,body) (by simp [blocks]) l hl R st a w K Q hx hst h hK
   ·refine wp_block (ix hte hΦ hany n body R st a w _ _ (λp hp=>hΛ p (by simp [blocks,hp])) hx hst h ⟨?_,?_,?_,?_⟩).wp
    ·exact λR' st' a' w' hx' hst' hk=>hK.normal R' st' a' w' hx' hst' hk
    ·exact λR' st' a' w' hx' hst' hk=>hK.ret R' st' a' w' hx' hst' hk
    ·intro R' st' a' w' j hx' hst' hk
     simp only [Exit.inBlock]
     by_cases e:j=id
     ·subst e
      simp at hk
      simp
      exact hK.normal R' st' a' w' hx' hst' hk
     ·have:(j==id)=false:=by grind
      simp only [this] at hk
      simp [e]
      exact hK.exit R' st' a' w' j hx' hst' hk
    ·exact λR' st' a' w' sv v hx' hst' hv hk=>hK.pan R' st' a' w' sv v hx' hst' hv hk
  case loop body=>
   refine Jm (ix hte hΦ hany n body R st a w _ _ (λp hp=>hΛ p (by simp [blocks,hp])) hx hst h ⟨?_,?_,?_,?_⟩).wp
   ·exact λR' st' a' w' hx' hst' hk=>ix hte hΦ hany n (.loop body) R' st' a' w' K Q hΛ hx' hst' hk hK
   ·exact λR' st' a' w' hx' hst' hk=>hK.ret R' st' a' w' hx' hst' hk
   ·exact λR' st' a' w' id hx' hst' hk=>hK.exit R' st' a' w' id hx' hst' hk
   ·exact λR' st' a' w' sv v hx' hst' hv hk=>hK.pan R' st' a' w' sv v hx' hst' hv hk
  case exit id=>exact wp_exit (hK.exit R st a w id hx hst h)
  case ret=>exact wp_ret (hK.ret R st a w hx hst h)
theorem rN (hte:kq P te) (hΦ:oa P Φ) (hany:Gi P te Φ) {R₀:Ctx} {Λ:Lam} {n:Nat} {c:Code} {R:Ctx} {st:St} {a:Act} {w:World} {K:SE->St->Prop} {Q:Exit->Act->World->Prop} (hΛ:rJ P R₀ Λ c)
 (hx:R₀.Ext R) (hst:iT R st a w) (h:wps te Φ Λ n c st K) (hK:o5 R₀ K Q):c.wp P Q a w:=(ix hte hΦ hany n c R st a w K Q hΛ hx hst h hK).wp
def Ctx.put (R:Ctx) (l:List Deferred):Ctx:=⟨R.F,⟨R.U.blk,R.U.env,l⟩,R.σ,R.hp⟩
theorem uS (R:Ctx) (l:List Deferred):R.aFa (R.put l):=⟨λ_ _ h=>h,λc ch h=>⟨ch,h,(by simp),λ_=>⟨rfl,rfl⟩⟩⟩
theorem aps {R:Ctx} {x:SV} {v:Value} (l:List Deferred) (h:SV.rel R x v):SV.rel (R.put l) x v:=SV.Gw (uS R l) x v h
theorem Gy {R:Ctx} {x:List SV} {v:List Value} (l:List Deferred) (h:SV.bz R x v):SV.bz (R.put l) x v:=SV.kv (uS R l) x v h
theorem aaO {R:Ctx} {w:World} (l:List Deferred) (h:cz R w):cz (R.put l) w:=by
 refine ⟨h.F,h.U,λc ch hc=> ?_,h.apart,h.FU,h.env⟩
 have h0:=h.ch c ch hc
 obtain ⟨e,body⟩:=ch
 cases body with
 |row t xs|frz t xs=>exact h0
 |cells vs=>
  obtain ⟨L,h1,h2,h3,arr,E,h4,h5,h6,h7,h8⟩:=h0
  exact ⟨L,h1,h2,h3,arr,E,h4,h5,h6,Gy l h7,h8⟩
theorem apt {R R':Ctx} {w':World} {u:List (Nat×Ch)} {l:List Deferred} (h:dL (R.put l) R' w' u):dL R (R'.put R.U.dfs) w' u:=
 ⟨⟨h.ext.F,by show (⟨R'.U.blk,R'.U.env,R.U.dfs⟩:Gf)=R.U;rw [h.ext.U];rfl,h.ext.ch⟩,h.hp,aaO _ h.mem⟩
end
end Sx
end
section
namespace Sx
open Go
section
variable {P:Program} {te:TE} {Φ:Env}
theorem ary {R:Ctx} {st:St} {a:Act} {w:World} (h:iT R st a w) (t:Nat):SV.rel R (st.tm.getD t .gu) (a.tmps.getD t Go.undef):=kn h (.tmp t)
def afQ (tmps:Array Value):ResultVar->Sem Value
 |.tmp t=>pure (tmps.getD t Go.undef)
 |.cell b t=>do loadVar t (<-asAddr (tmps.getD b Go.undef))
theorem aeb (ad:Addr):asAddr (.pointer (some ad))=pure ad:=rfl
theorem mq (hte:kq P te) {R:Ctx} {st:St} {a:Act} {w:World} (h:iT R st a w):∀ (rs:List ResultVar) (K:List SV->Prop),sn te st rs K->
 ∃ l vs,K l/\SV.bz R l vs/\(rs.mapM (afQ a.tmps)).run P w=.ok vs w
 | [],K,hk=>⟨[],[],hk,uR,rfl⟩
 |.tmp t::r,K,hk=>by
  obtain ⟨l,vs,h1,h2,h3⟩:=mq hte h r _ hk
  refine ⟨_,a.tmps.getD t Go.undef::vs,h1,?_,?_⟩
  ·simp only [SV.bz];exact ⟨_,_,rfl,ary h t,h2⟩
  ·simp only [List.mapM_cons,afQ,Sem.run_bind,Sem.run_pure,Result.andThen_ok,h3]
 |.cell b T::r,K,hk=>by
  simp only [sn] at hk
  split at hk
  ·rename_i ti hT
   obtain ⟨cs,h0,h1⟩:=OT.Hk hk
   obtain ⟨l,vs,h1,h2,h3⟩:=mq hte h r _ h1
   rw [<-h.hp] at h0
   obtain ⟨ad,hv,v,g1,g2⟩:=Bi (P:=P) h.mem hte hT (ary h b) h0
   refine ⟨_,v::vs,h1,?_,?_⟩
   ·simp only [SV.bz];exact ⟨_,_,rfl,g2,h2⟩
   ·simp only [List.mapM_cons,afQ,Sem.run_bind,hv,aeb,Sem.run_pure,Result.andThen_ok,g1,h3]
  ·exact hk.elim
theorem ki (hte:kq P te) {R:Ctx} {st:St} {a:Act} {w:World} (h:iT R st a w) {fn:Func} {K:SV->Prop} (hk:AR te fn st K):
 ∃ x v,K x/\SV.rel R x v/\(results fn a.tmps).run P w=.ok v w:=by
 obtain ⟨l,vs,h1,h2,h3⟩:=mq hte h _ _ hk
 have hrun:(results fn a.tmps).run P w=.ok (if h:vs.toArray.size=1 then vs.toArray[0] else .tuple vs.toArray) w:=by
  have hfun:results fn a.tmps=(do
   let vs <-fn.results.mapM (afQ a.tmps)
   pure (if h:vs.size=1 then vs[0] else .tuple vs)):=by
   unfold results
   congr 1
  rw [hfun,Sem.run_bind,Array.mapM_eq_mapM_toList,Sem.run_map,h3]
  rfl
 refine ⟨_,_,h1,?_,hrun⟩
 have hl:=SV.aN h2
 cases l with
 |nil=>
  simp only [SV.bz] at h2
  subst h2
  simp only [oneOf,SV.rel]
  exact ⟨[],by simp,uR⟩
 |cons x l=>
  cases l with
  |nil=>
   obtain ⟨v,rfl,hv⟩:=bY h2
   simpa [oneOf] using hv
  |cons y l=>
   have hne:¬vs.toArray.size=1:=by simp at hl⊢;omega
   rw [dif_neg hne]
   simp only [oneOf,SV.rel]
   exact ⟨vs,rfl,h2⟩
def FV (R:Ctx) (K Kp:SV->Hp->Prop) (en:Ending) (w':World):Prop:=
 (∃ x v R',en=.returned v/\R.Ext R'/\cz R' w'/\SV.rel R' x v/\K x R'.hp)\/(∃ x v R',en=.panicked [{v,recovered:=false}]/\R.Ext R'/\cz R' w'/\SV.rel R' x v/\Kp x R'.hp)
theorem azL (hte:kq P te) (hΦ:oa P Φ) (hany:Gi P te Φ) {fn:Func} {c:Code} (hb:fn.body=some c) {R:Ctx} {Λ:Lam} (hΛ:rJ P R Λ c) {w:World} {n:Nat}
 {args:List SV} {vs:List Value} {K Kp:SV->Hp->Prop} (hd:R.U.dfs= []) (hm:cz R w) (ha:SV.bz R args vs) (h:wpf te Φ Λ n fn args R.hp K Kp):
 c.wp P (bodyPost P fn (FV R K Kp)) {tmps:=vs.toArray++Array.replicate (fn.ntmps-vs.toArray.size) undef,defers:= []} w:=by
 unfold wpf at h
 rw [hb] at h
 simp only at h
 refine rN (R₀:=R) (R:=R) hte hΦ hany hΛ (Ctx.Ext.refl R) ⟨rfl,hm,?_,hd.symm⟩ h ⟨?_,?_,?_,?_⟩
 ·have hl:=SV.aN ha
  simp only [Array.toList_append,List.toList_toArray,Array.toList_replicate,List.size_toArray,hl]
  refine SV.bA ha (SV.pC (by simp) λi h1 h2=> ?_)
  simp [SV.rel]
 ·intro R' st a w' hx hst hk
  obtain ⟨x,v,h1,h2,h3⟩:=ki hte hst hk
  refine ⟨hst.defers.trans (by rw [hx.U];exact hd),v,h3,.inl ⟨x,v,R',rfl,hx,hst.mem,h2,?_⟩⟩
  rw [hst.hp];exact h1
 ·intro R' st a w' hx hst hk
  obtain ⟨x,v,h1,h2,h3⟩:=ki hte hst hk
  refine ⟨hst.defers.trans (by rw [hx.U];exact hd),v,h3,.inl ⟨x,v,R',rfl,hx,hst.mem,h2,?_⟩⟩
  rw [hst.hp];exact h1
 ·intro R' st a w' id hx hst hk
  exact hk.elim
 ·intro R' st a w' sv v hx hst hv hk
  refine ⟨hst.defers.trans (by rw [hx.U];exact hd),.inr ⟨sv,v,R',rfl,hx,hst.mem,hv,?_⟩⟩
  rw [hst.hp];exact hk
theorem Hj (hte:kq P te) (hΦ:oa P Φ) (hany:Gi P te Φ) {f:FuncId} {fn:Func} {c:Code} (hf:P.funcs[f]? =some fn) (hb:fn.body=some c) {R:Ctx} {Λ:Lam} (hΛ:rJ P R Λ c) {w:World} {n:Nat}
 {args:List SV} {vs:List Value} {K Kp:SV->Hp->Prop} (hd:R.U.dfs= []) (hm:cz R w) (ha:SV.bz R args vs) (h:wpf te Φ Λ n fn args R.hp K Kp):Calls P f vs.toArray w (FV R K Kp):=
 calls_of_wp hf hb (azL hte hΦ hany hb hΛ hd hm ha h)
end
end Sx
end
section
namespace Sx
open Go
def ATy:List (Bool×Ty)->Type
 | []=>Unit
 |(_,t)::r=>t.T×ATy r
def apR (hp:Hp):(t:Ty)->List SV->Option t.T
 |.bool,cs=>ak8 cs
 |.u64,cs=>aEZ cs
 |.u8,cs=>pU8 cs
 |.int,cs=>aE2 cs
 |.str,cs=>aE0 cs
 |.elem,cs=>ak7 cs
 |.prod a b,cs=>sF (apR hp a (cs.take a.size)) (apR hp b (cs.drop a.size))
 |.arr n t,cs=>if cs.length=n*t.size then (List.range n).mapM λi=>apR hp t ((cs.drop (i*t.size)).take t.size) else none
 |.list t,cs=>if 0<t.size then aE1 (xa t hp) cs else none
def aF5 (hp:Hp) (b:Bool) (t:Ty) (x:SV):Option t.T:=
 match b,x with
 |true,.agg l=>apR hp t l
 |true,_=>none
 |false,x=>apR hp t [x]
def arz (hp:Hp):(as:List (Bool×Ty))->List SV->Option (ATy as)
 | [],[]=>some ()
 |(b,t)::r,x::l=>sF (aF5 hp b t x) (arz hp r l)
 |_,_=>none
def inj (b:Bool) (t:Ty) (x:t.T):SV:=rG b (unpack t x)
def axN:(as:List (Bool×Ty))->ATy as->List SV
 | [],_=> []
 |(b,t)::r,x=>inj b t x.1::axN r x.2
def Ctx.all (R:Ctx) (w:World):Ctx:=⟨λb=>w.heap[b]?,⟨λ_=>none,R.U.env,[]⟩,λ_=>none,λ_=>none⟩
section
variable {P:Program} {R:Ctx} {w:World}
def Ty.plain:Ty->Bool
 |.list _=>false
 |.prod a b=>a.plain&&b.plain
 |.arr _ t=>t.plain
 |_=>true
def SV.flat:SV->Bool
 |.bool _|.u64 _|.u8 _|.int _|.str _=>true
 |_=>false
theorem ahf {R R':Ctx}:∀ {x:SV} {v:Value},x.flat=true->SV.rel R x v->SV.rel R' x v:=by
 intro x v hf h
 cases x<;>first|(cases hf;done)|grind [SV.rel]
theorem WY {R R':Ctx}:∀ {l:List SV} {vs:List Value},l.all SV.flat=true->SV.bz R l vs->SV.bz R' l vs
 | [],vs,_,h=>by grind [SV.bz]
 |x::l,vs,hf,h=>by
  simp only [aA,aw] at hf
  obtain ⟨v,r,h1,h2,h3⟩:=h
  exact ⟨v,r,h1,ahf hf.1 h2,WY hf.2 h3⟩
theorem mi:∀ (t:Ty) (_:t.plain=true) (x:t.T),(unpack t x).all SV.flat=true
 |.bool,_,_|.u64,_,_|.u8,_,_|.int,_,_|.str,_,_|.elem,_,_=>rfl
 |.prod a b,hp,x=>by
  simp [Ty.plain] at hp
  simp [unpack,mi a hp.1,mi b hp.2]
 |.arr n t,hp,x=>by
  simp [unpack]
  intro i _
  simpa [fX] using mi t hp _
structure aiD where
 as:List (Bool×Ty)
 rs:List (Bool×Ty)
 pre:ATy as->Bool
 F:ATy as->ATy rs
def aiD.az (S:aiD):bx:=⟨false,λ_ args hp=>match arz hp S.as args with
 |some x=>.guard (S.pre x) (.ok (.ret ⟨oneOf (axN S.rs (S.F x)),[]⟩))
 |none=>.fail⟩
end
end Sx
end
section
namespace Sx
open Go
def lU (d n:Nat):Prop:=n/4096=d+1
structure Grown (d:Nat) (hp hp':Hp):Prop where
 mB:∀ c ch,hp c=some ch->hp' c=some ch
 free:∀ n,lU d n->hp n=none->hp' n=none
theorem AP {c e n:Nat} {hp:Hp} (h:fg hp c e=some n):∃ b,eu hp c e=some b:=by grind [fg]
theorem n0 {c e n:Nat} {hp:Hp} (h:dU hp c e=some n):∃ b,eu hp c e=some b:=by grind [dU]
section
variable {d:Nat} {hp hp':Hp} (hg:Grown d hp hp')
include hg
theorem bO {c e:Nat} {b:Chunk} (h:eu hp c e=some b):eu hp' c e=some b:=by
 have:=hg.mB _ _ (bT h)
 grind [eu]
theorem tz:∀ (n k:Nat),n+k<=4000->fu hp' d n k=fu hp d n k
 |0,k,_=>rfl
 |n+1,k,hk=>by
  simp [fu]
  cases h:hp ((d+1)*4096+k) with
  |none=>
   have:hp' ((d+1)*4096+k)=none:=hg.free _ (by grind [lU]) h
   grind
  |some ch=>
   rw [hg.mB _ _ h]
   exact tz n (k+1) (by omega)
theorem j5:fresh hp' d=fresh hp d:=tz hg 4000 0 (by simp)
theorem Uu {c e n:Nat} (h:fg hp c e=some n):fg hp' c e=some n:=by grind [fg,eu,bO]
theorem AO {c e n:Nat} (h:dU hp c e=some n):dU hp' c e=some n:=by grind [dU,eu,bO]
theorem ad9 {t:Ty} {x:SV} {ys:List t.T} (h:aea t hp x=some ys):aea t hp' x=some ys:=by
 cases x<;>simp [aea] at h⊢ <;>try omega
 case own c e=>
  cases hc:hp c with
  |none=>grind
  |some ch=>rw [hg.mB _ _ hc];grind
 case part c e off len=>
  cases hc:hp c with
  |none=>grind
  |some ch=>rw [hg.mB _ _ hc];grind
theorem Yw {t:Ty} {x:SV} {ys:List t.T} (h:xa t hp x=some ys):xa t hp' x=some ys:=by
 cases x<;>simp [xa] at h⊢ <;>try grind
 case own c e=>
  cases hc:hp c with
  |none=>grind
  |some ch=>rw [hg.mB _ _ hc];grind
 case part c e off len=>
  cases hc:hp c with
  |none=>grind
  |some ch=>rw [hg.mB _ _ hc];grind
 case clip c e=>
  cases hc:hp c with
  |none=>grind
  |some ch=>rw [hg.mB _ _ hc];grind
theorem lX:∀ {t:Ty} {cs:List SV} {x:t.T},pack hp t cs=some x->pack hp' t cs=some x
 |.bool,_,_,h|.u64,_,_,h|.u8,_,_,h|.int,_,_,h|.str,_,_,h|.elem,_,_,h=>h
 |.prod a b,cs,x,h=>by
  obtain ⟨h1,h2⟩:=aW h
  simp [pack,lX h1,lX h2,sF]
 |.arr n t,cs,x,h=>by
  simp only [pack] at h⊢
  split at h
  ·rename_i hl
   rw [if_pos hl]
   exact lZ (λ_ _=>lX) h
  grind
 |.list t,cs,x,h=>by
  obtain ⟨y,rfl,hy⟩:=oj h
  exact ad9 hg hy
theorem Jo {n:Nat} {x:SV} {cs:List SV} (h:(loadCells hp n x).run=some cs):(loadCells hp' n x).run=some cs:=by
 unfold loadCells at h⊢
 split at h
 ·rename_i c e i off
  cases hq:eu hp c e with
  |none=>rw [hq] at h;cases h
  |some b=>grind [bO]
 ·grind
 ·omega
 grind
theorem MC {te:TE} {T:TypeId} {x z:SV} (h:(wo te hp T x).run=some z):(wo te hp' T x).run=some z:=by
 unfold wo at h⊢
 split at h
 ·split at h
  ·omega
  ·split at h
   ·cases h
   ·rename_i hn
    rw [if_neg hn]
    split at h
    ·split at h
     ·rename_i hrs
      rw [if_pos (AO hg hrs)]
      split at h
      ·grind [Uu]
      ·cases h
     ·cases h
    ·split at h
     ·grind [AO]
     ·cases h
    ·exact h
    omega
 omega
theorem P8 {t:Ty} {cs:List SV}:∀ {m j i:Nat} {xs ys:List t.T},sd t hp cs m j i xs=some ys->sd t hp' cs m j i xs=some ys
 :=by intro t;induction t<;>grind [sd,lX]
theorem F1 {cs:List SV} {x:SV} {u:List (Nat×Ch)} (h:(storeCells hp cs x).run=some u):(storeCells hp' cs x).run=some u:=by
 unfold storeCells at h⊢
 split at h
 ·rename_i c e i off
  cases hq:eu hp c e with
  |none=>rw [hq] at h;cases h
  |some b=>
   rw [bO hg hq]
   rw [hq] at h
   cases b with
   |frz t xs=>cases h
   |cells vs=>exact h
   |row t xs=>
    simp only at h⊢
    split at h
    ·rename_i h1
     rw [if_pos h1]
     obtain ⟨h2,h3⟩:=OT.aE h
     rw [h2]
     split at h3
     ·grind [lX]
     ·cases h3
    ·rename_i h1
     rw [if_neg h1]
     split at h
     ·rename_i h4
      obtain ⟨h2,h3⟩:=OT.aE h
      rw [h2]
      split at h3
      ·grind [P8]
      ·cases h3
     ·cases h
 ·cases h
theorem gy {c e:Nat} {b:Chunk} (h:eu hp c e=some b):dU hp' c e=dU hp c e:=by grind [dU,bO]
theorem fJ {c e:Nat} {b:Chunk} (h:eu hp c e=some b):fg hp' c e=fg hp c e:=by grind [fg,bO]
theorem JM {te:TE} {T:TypeId} {x z:SV} {k:Int} (h:(indexAddr te hp T x k).run=some z):(indexAddr te hp' T x k).run=some z:=by
 unfold indexAddr at h⊢
 split at h
 ·cases h
 ·split at h
  ·split at h
   ·cases h
   ·split at h
    ·rename_i ei _ c ep i off
     cases hq:eu hp c ep with
     |none=>
      have:dU hp c ep=none:=by unfold dU;rw [hq]
      rw [this,hq] at h
      simp at h
      cases h
     |some b=>
      grind [gy,bO]
    ·exact h
    ·cases h
  ·split at h
   ·cases h
   ·split at h
    ·split at h
     ·grind [AP,fJ,gy]
     ·cases h
    ·split at h
     ·grind [AP,fJ,gy]
     ·cases h
    ·split at h
     ·rename_i hs
      obtain ⟨b,hb⟩:=n0 hs
      rw [gy hg hb,if_pos hs]
      exact h
     ·cases h
    ·exact h
    ·cases h
  ·cases h
end
end Sx
end
section
namespace Sx
open Go
theorem jV {hp:Hp} {c e:Nat} (h:eu hp c e=none):fg hp c e=none:=by unfold fg;rw [h]
section
variable {d:Nat} {hp hp':Hp} (hg:Grown d hp hp')
include hg
theorem AG {size c ep off len:Nat} {lo hi:Option SV} {z:SV} (h:(xO hp size c ep off len lo hi).run=some z):(xO hp' size c ep off len lo hi).run=some z:=by
 unfold xO at h⊢
 split at h
 ·rename_i hs
  obtain ⟨b,hb⟩:=n0 hs
  rw [gy hg hb,if_pos hs]
  exact h
 ·cases h
theorem P0 {te:TE} {T:TypeId} {x z:SV} {lo hi mx:Option SV} (h:(px te hp T x lo hi mx).run=some z):(px te hp' T x lo hi mx).run=some z:=by
 unfold px at h⊢
 split at h
 ·cases h
 ·split at h
  ·split at h
   ·rename_i ei c ep i off _
    split at h
    ·rename_i hc
     obtain ⟨b,hb⟩:=n0 hc.2.2
     rw [gy hg hb,if_pos hc,fJ hg hb]
     exact h
    ·cases h
   ·cases h
  ·split at h
   ·cases h
   ·rename_i ei _
    have h0:=OT.az9 h
    clear h
    rcases h0 with ⟨hn,h⟩|⟨hn,h⟩
    ·rw [hn,OT.aFx]
     cases x<;>first|exact h|(cases h;done)|skip
     case own c ep|clip c ep|part c ep _ _=>
      cases hq:eu hp c ep with
      |none=>simp only [jV hq] at h;cases h
      |some b=>simp only [fJ hg hq];exact h
    ·rw [hn,OT.aFy]
     cases mx with
     |some m=>
      cases m<;>cases x<;>first|exact h|(cases h;done)|skip
      case int.own m c ep=>
       cases hq:eu hp c ep with
       |none=>simp only [jV hq] at h;cases h
       |some b=>simp only [fJ hg hq,gy hg hq];exact h
     |none=>
      cases x<;>first|exact h|(cases h;done)|skip
      case own c ep=>
       cases hq:eu hp c ep with
       |none=>simp only [jV hq] at h;cases h
       |some b=>
        simp only [fJ hg hq]
        simp only at h
        split at h
        ·exact AG hg h
        ·cases h
      case part c ep off len=>exact AG hg h
  ·exact h
  ·cases h
theorem abJ {te:TE} {T:TypeId} {x z:SV} (h:(Mn te hp T x).run=some z):(Mn te hp' T x).run=some z:=by
 unfold Mn at h⊢
 split at h
 ·cases h
 ·rename_i ti hT
  cases hd:ti.desc<;>rw [hd] at h<;>cases x<;>first|exact h|(cases h;done)|skip
  case slice.own _ c ep=>
   simp only at h⊢
   cases hq:eu hp c ep with
   |none=>simp only [jV hq] at h;cases h
   |some b=>simp only [fJ hg hq];exact h
  case slice.clip _ c ep=>
   simp only at h⊢
   cases hq:eu hp c ep with
   |none=>simp only [jV hq] at h;cases h
   |some b=>simp only [fJ hg hq];exact h
  case slice.part _ c ep off len=>
   simp only at h⊢
   cases hq:eu hp c ep with
   |none=>simp only [jV hq] at h;cases h
   |some b=>simp only [fJ hg hq];exact h
omit hg in
theorem tx:∀ (n k:Nat),n+k<=4000->lU d (fu hp d n k)
 |0,k,h=>by unfold lU;simp only [fu];omega
 |n+1,k,h=>by
  simp only [fu]
  split
  ·unfold lU;omega
  ·exact tx n (k+1) (by omega)
omit hg in
theorem Kf (d:Nat) (hp:Hp):lU d (fresh hp d):=tx 4000 0 (by omega)
theorem eM (h:¬(hp (fresh hp d)).isSome=true):¬(hp' (fresh hp d)).isSome=true:=by
 rw [hg.free _ (Kf d hp) (oG h)]
 simp
theorem NH {t:Ty} {x:SV} {ys:List t.T}:(match x with
 |.str b=>cd t .u8 b
 |_=>xa t hp x)=some ys->(match x with
 |.str b=>cd t .u8 b
 |_=>xa t hp' x)=some ys:=λh=>by
 cases x<;>first|exact h|exact Yw hg h
theorem ME {te:TE} {T:TypeId} {s x:SV} {e:Eff} (h:(wq te hp d T s x).run=some e):(wq te hp' d T s x).run=some e:=by
 unfold wq at h⊢
 split at h
 ·split at h
  ·rename_i size bytes _ _ t hte
   split at h
   ·cases h
   ·rename_i hb
    rw [if_neg hb]
    split at h
    ·rename_i ys hys
     have key:=NH hg hys
     split
     case h_2 hno=>exact absurd (hno.symm.trans key) (by simp)
     rename_i ys' hys'
     have:ys'=ys:=Option.some.inj (hys'.symm.trans key)
     subst this
     cases s<;>first|(cases h;done)|skip
     case own c ep=>
      simp only at h⊢
      cases hq:eu hp c ep with
      |none=>rw [hq] at h;cases h
      |some b=>rw [bO hg hq];rw [hq] at h;exact h
     case emp=>
      simp only at h⊢
      split at h
      ·cases h
      ·rename_i hf
       rw [j5 hg,if_neg (eM hg hf)]
       exact h
     case clip c ep=>
      simp only at h⊢
      cases hq:eu hp c ep with
      |none=>rw [hq] at h;cases h
      |some b=>
       rw [bO hg hq];rw [hq] at h
       cases b<;>first|(cases h;done)|skip
       case row t' xs=>
        simp only at h⊢
        split at h
        ·split at h
         ·cases h
         ·rename_i hf
          rw [j5 hg,if_neg (eM hg hf)]
          exact h
        ·cases h
    ·cases h
  ·cases h
 ·cases h
theorem Xw {te:TE} {T:TypeId} {x y:SV} {e:Eff} (h:(Oq te hp T x y).run=some e):(Oq te hp' T x y).run=some e:=by
 unfold Oq at h⊢
 split at h
 ·split at h
  ·split at h
   ·cases h
   ·rename_i hb
    rw [if_neg hb]
    split at h
    ·rename_i ys hys
     have key:=NH hg hys
     split
     case h_2 hno=>exact absurd (hno.symm.trans key) (by simp)
     rename_i ys' hys'
     have:ys'=ys:=Option.some.inj (hys'.symm.trans key)
     subst this
     cases x<;>first|(cases h;done)|skip
     case own c ep=>
      simp only at h⊢
      cases hq:eu hp c ep with
      |none=>rw [hq] at h;cases h
      |some b=>rw [bO hg hq];rw [hq] at h;exact h
     case part c ep off len=>
      simp only at h⊢
      cases hq:eu hp c ep with
      |none=>rw [hq] at h;cases h
      |some b=>rw [bO hg hq];rw [hq] at h;exact h
    ·cases h
  ·cases h
 ·cases h
theorem Fi {te:TE} {T:TypeId} {cs:List SV} {e:Eff} (h:(newVar te hp d T cs).run=some e):(newVar te hp' d T cs).run=some e:=by
 unfold newVar at h⊢
 split at h
 ·cases h
 ·split at h
  ·cases h
  ·rename_i hl
   rw [if_neg hl]
   simp only at h⊢
   split at h
   ·cases h
   ·rename_i hf
    rw [j5 hg,if_neg (eM hg hf)]
    exact h
theorem F9 {te:TE} {T:TypeId} {len:Nat} {ps:List (Nat×SV)} {e:Eff} (h:(buildSlice te hp d T len ps).run=some e):(buildSlice te hp' d T len ps).run=some e:=by
 unfold buildSlice at h⊢
 split at h
 ·split at h
  ·simp only at h⊢
   split at h
   ·cases h
   ·rename_i hf
    rw [j5 hg]
    rw [if_neg (by rintro (h1|h1);exact eM hg (λh2=>hf (.inl h2)) h1;exact hf (.inr h1))]
    split at h
    ·split at h
     ·rename_i xs hxs
      rw [lZ (λ_ _=>lX hg) hxs]
      exact h
     ·cases h
    ·cases h
  ·cases h
 ·cases h
theorem Jg {te:TE} {T:TypeId} {l c:Int} {e:Eff} (h:(makeSlice te hp d T l c).run=some e):(makeSlice te hp' d T l c).run=some e:=by
 unfold makeSlice at h⊢
 split at h
 ·split at h
  ·simp only at h⊢
   split at h
   ·cases h
   ·rename_i hf
    rw [j5 hg]
    rw [if_neg (by rintro (h1|h1);exact eM hg (λh2=>hf (.inl h2)) h1;exact hf (.inr h1))]
    exact h
  ·cases h
 ·cases h
end
end Sx
end
section
namespace Sx
open Go
def ax (s:bx):Prop:=∀ (d:Nat) (args:List SV) (hp hp':Hp) (out:Out),Grown d hp hp'->(s.f d args hp).run=some out->(s.f d args hp').run=some out
def ob (Φ:Env):Prop:=∀ f s,Φ f=some s->ax s
theorem fp {α β:Type} {f:α->β} {x y:OT α} {z:β} (hxy:∀ a,x.run=some a->y.run=some a) (h:(x.map f).run=some z):(y.map f).run=some z:=by
 obtain ⟨a,h1,rfl⟩:=OT.run_map h
 have:=hxy a h1
 clear h h1 hxy
 induction y with
 |ok b=>cases this;rfl
 |br b u v hu hv=>
  cases b
  ·exact hv this
  ·exact hu this
 |fail=>cases this
theorem F7 {te:TE} {d:Nat} {hp hp':Hp} (hg:Grown d hp hp') {src dst:TypeId} {x:SV} {y:Nat×Nat×List UInt8} (h:ij te hp src dst x=some y):ij te hp' src dst x=some y:=by
 unfold ij at h⊢
 split at h
 ·rename_i hs
  rw [if_pos hs]
  split at h
  ·split at h
   ·split at h
    ·split at h
     ·rename_i h3
      rw [bO hg h3]
      exact h
     ·cases h
    ·cases h
   ·cases h
  ·cases h
 ·cases h
theorem amQ {te:TE} {Φ:Env} (hΦ:ob Φ) {d:Nat} {hp hp':Hp} (hg:Grown d hp hp') {ρ:Operand->SV} {op:Op} {out:Out} (h:(L9 te Φ hp d ρ op).run=some out):
 (L9 te Φ hp' d ρ op).run=some out:=by
 cases op<;>simp only [L9] at h⊢ <;>try (first|exact h|(cases h;done))
 case alloc T=>
  split at h
  ·exact fp (λ_=>Fi hg) h
  ·cases h
 case box T x=>
  split at h
  ·exact fp (λ_=>Fi hg) h
  ·cases h
 case buildSlice T len ps=>exact fp (λ_=>F9 hg) h
 case load T a=>
  split at h
  ·exact fp (λ_ hq=>fp (λ_=>Jo hg) hq) h
  ·cases h
 case store T a x=>
  split at h
  ·split at h
   ·split at h
    ·rename_i hl
     rw [if_pos hl]
     exact fp (λ_=>F1 hg) h
    ·cases h
   ·cases h
  ·cases h
 case slice T x lo hi mx=>exact fp (λ_=>P0 hg) h
 case sliceToArrayPointer T x=>exact fp (λ_=>MC hg) h
 case indexAddr T x k=>
  split at h
  ·exact fp (λ_=>JM hg) h
  ·cases h
 case convert src dst x=>
  split at h
  ·exact h
  ·split at h
   ·rename_i hs
    rw [F7 hg hs]
    exact h
   ·rename_i hs
    split
    ·rename_i c e s hs'
     obtain ⟨_,_,hx,_,_⟩:=uc hs'
     rw [hx] at h
     unfold GY at h
     split at h<;>first|(cases h;done)|(split at h<;>first|(cases h;done)|skip)
     all_goals (rename_i he;simp_all)
    ·exact h
 case makeSlice T l c=>
  split at h
  ·exact fp (λ_=>Jg hg) h
  ·cases h
 case call c=>
  cases hc:c.callee<;>simp only [hc] at h⊢ <;>try (cases h;done)
  case value f=>
   unfold atg at h⊢
   split at h
   ·split at h
    ·rename_i s hs
     exact hΦ _ _ hs _ _ _ _ _ hg h
    ·cases h
   ·cases h
  case invoke recv name=>
   unfold Ss at h⊢
   split at h
   ·split at h
    ·split at h
     ·rename_i s hs
      exact hΦ _ _ hs _ _ _ _ _ hg h
     ·cases h
    ·cases h
   ·cases h
  case builtin b=>
   cases b<;>simp only at h⊢ <;>try (cases h;done)
   case len=>
    split at h
    ·exact fp (λ_=>abJ hg) h
    ·cases h
   case append=>
    split at h
    ·split at h
     ·rename_i hl
      rw [if_pos hl]
      exact fp (λ_=>ME hg) h
     ·cases h
    ·cases h
   case copy=>
    split at h
    ·exact fp (λ_=>Xw hg) h
    ·cases h
   case max=>exact h
def S1 (d:Nat) (hp hp':Hp):Prop:=∀ n,lU d n->(hp n=none ↔ hp' n=none)
theorem Fv {d:Nat} {hp hp':Hp} (hf:S1 d hp hp'):∀ (n k:Nat),n+k<=4000->fu hp' d n k=fu hp d n k
 |0,k,_=>rfl
 |n+1,k,hk=>by
  simp only [fu]
  have hb:lU d ((d+1)*4096+k):=by unfold lU;omega
  cases h:hp ((d+1)*4096+k) with
  |none=>rw [(hf _ hb).1 h]
  |some ch=>
   cases h':hp' ((d+1)*4096+k) with
   |none=>rw [(hf _ hb).2 h'] at h;cases h
   |some ch'=>exact Fv hf n (k+1) (by omega)
theorem ag7 {d:Nat} {hp hp':Hp} (hf:S1 d hp hp'):fresh hp' d=fresh hp d:=Fv hf 4000 0 (by omega)
theorem VN {d:Nat} {hp hp':Hp} (hf:S1 d hp hp'):(hp' (fresh hp d)).isSome=(hp (fresh hp d)).isSome:=by
 have:=hf _ (Kf d hp)
 cases h:hp (fresh hp d) with
 |none=>rw [this.1 h]
 |some ch=>
  cases h':hp' (fresh hp d) with
  |none=>rw [this.2 h'] at h;cases h
  |some ch'=>rfl
theorem asR {te:TE} {Φ:Env} {d:Nat} {hp hp':Hp} (hf:S1 d hp hp') {ρ:Operand->SV} {op:Op} (hk:fE Φ op=0):
 L9 te Φ hp' d ρ op=L9 te Φ hp d ρ op:=by
 cases op<;>simp only [L9]<;>(first|(exfalso;simp [fE] at hk;done)|skip)
 case convert src dst x=>
  have hne:¬Nat.beq src dst=true:=λe=>by simp [fE,e] at hk
  have:∀ hp,ij te hp src dst (ρ x)=none:=λhp=>by unfold ij;rw [if_neg hne]
  rw [this,this]
 case alloc T=>
  split
  ·congr 1
   unfold newVar
   rw [ag7 hf]
   simp only [VN hf]
  ·rfl
 case makeSlice T l c=>
  split
  ·congr 1
   unfold makeSlice
   rw [ag7 hf]
   simp only [VN hf]
  ·rfl
 case call c=>
  cases hc:c.callee<;>(try simp only)
  case value f=>
   exfalso
   simp only [fE,hc] at hk
   cases f<;>simp only at hk<;>first|(cases hk;done)|skip
   split at hk
   ·split at hk<;>cases hk
   ·cases hk
  case invoke recv name=>
   exfalso
   simp only [fE,hc] at hk
   cases hk
  case builtin b=>
   cases b<;>(try simp only)<;>(simp only [fE,hc] at hk;try (cases hk;done))
theorem amR {te:TE} {Φ:Env} {d:Nat} {hp:Hp} {ρ ρ':Operand->SV} {op:Op} (h:∀ x ∈ op.operands,ρ x=ρ' x):L9 te Φ hp d ρ op=L9 te Φ hp d ρ' op:=by
 have pairs:∀ ps:Array (Nat×Operand),(∀ x ∈ (ps.toList.map (·.2)).toArray,ρ x=ρ' x)->(ps.toList.map λp=>(p.1,ρ p.2))=(ps.toList.map λp=>(p.1,ρ' p.2)):=λps hp=>
  List.map_congr_left λp hm=>by
   rw [hp p.2 (by simpa using ⟨p.1,by simpa using hm⟩)]
 cases op<;>simp only [Op.operands] at h<;>simp only [L9]
 case build t ps=>rw [pairs ps h]
 case buildSlice t n ps=>rw [pairs ps h]
 case makeFunc f first caps=>
  rw [List.map_congr_left (l:=first.toList) λx hx=>h x (by simp at hx;simp [hx]),List.map_congr_left (l:=caps.toList) λx hx=>h x (by simp at hx;simp [hx])]
 case call c=>
  have hargs:c.args.toList.map ρ=c.args.toList.map ρ':=List.map_congr_left λx hx=>h x (by simp at hx;simp [Call.operands,hx])
  have harr:∀ x ∈ c.args.toList,ρ x=ρ' x:=λx hx=>h x (by simp at hx;simp [Call.operands,hx])
  cases hc:c.callee<;>(try simp only)
  case value f=>
   have hf:ρ f=ρ' f:=h f (by simp [Call.operands,hc])
   rw [hargs,hf]
  case invoke recv name=>
   have hf:ρ recv=ρ' recv:=h recv (by simp [Call.operands,hc])
   rw [hargs,hf]
  case builtin b=>
   cases b<;>(try simp only)
   all_goals (
    rcases ha:c.args.toList with _|⟨x,_|⟨y,_|⟨z,r⟩⟩⟩<;>rcases hT:c.argTypes.toList with _|⟨T,_|⟨T',_|⟨T'',r'⟩⟩⟩<;>
     first
     |rfl
     |(have hx:=harr x (by rw [ha];simp);simp only [hx];done)
     |(have hx:=harr x (by rw [ha];simp);have hy:=harr y (by rw [ha];simp);simp only [hx,hy];done))
 case slice t x lo hi mx=>cases lo<;>cases hi<;>cases mx<;>simp_all
 all_goals (first|rfl|(simp_all;done))
end Sx
end
section
namespace Sx
open Go
def bu (u:List (Nat×Ch)):List Nat:=u.map (·.1)
theorem xY {m:Nat}:∀ (u:List (Nat×Ch)) {hp hp':Hp},hp m=hp' m->cO hp u m=cO hp' u m
 | [],_,_,h=>h
 |(c,ch)::r,hp,hp',h=>xY r (by show (if m=c then some ch else hp m)=(if m=c then some ch else hp' m);rw [h])
theorem eJ {m:Nat}:∀ (u:List (Nat×Ch)) {hp:Hp},m ∉ bu u->cO hp u m=hp m
 | [],_,_=>rfl
 |(c,ch)::r,hp,h=>by
  have h1:m≠c:=λe=>h (by simp [bu,e])
  have h2:m ∉ bu r:=λe=>h (by simp only [bu,List.map_cons,List.mem_cons];exact .inr e)
  simp only [cO]
  rw [eJ r h2]
  simp [h1]
theorem Qi {m:Nat}:∀ (u:List (Nat×Ch)) {hp hp':Hp},m ∈ bu u->cO hp u m=cO hp' u m
 | [],_,_,h=>by simp [bu] at h
 |(c,ch)::r,hp,hp',h=>by
  by_cases h2:m ∈ bu r
  ·exact Qi r h2
  ·have h1:m=c:=by
    simp only [bu,List.map_cons,List.mem_cons] at h
    exact h.resolve_right h2
   simp only [cO]
   rw [eJ r h2,eJ r h2]
   simp [h1]
theorem Nc {m:Nat}:∀ (u:List (Nat×Ch)) {hp:Hp},hp m≠none->cO hp u m≠none
 | [],_,h=>h
 |(c,ch)::r,hp,h=>Nc r (by
  show (if m=c then some ch else hp m)≠none
  split
  ·simp
  ·exact h)
theorem put_comm {s:St} {d d':Option Tmp} {e e':Eff} (hd:∀ t,d=some t->d'≠some t) (hn:∀ m,m ∈ bu e.upd->m ∉ bu e'.upd):(s.put d e).put d' e'=(s.put d' e').put d e:=by
 unfold St.put
 congr 1
 ·cases d with
  |none=>rfl
  |some t=>
   cases d' with
   |none=>rfl
   |some t'=>
    simp only [C7]
    exact List.set_comm _ _ (λh=>hd t rfl (by rw [h]))
 ·funext m
  simp only
  by_cases h':m ∈ bu e'.upd
  ·have h:m ∉ bu e.upd:=λh=>hn m h h'
   rw [Qi e'.upd (hp':=s.hp) h',eJ e.upd h]
  ·rw [eJ e'.upd h']
   exact xY _ (eJ e'.upd h').symm
theorem vJ (st:St) (D:Nat->Bool):∀ (F:mg),(bg st D F).tm.length=st.tm.length
 | []=>rfl
 |x::r=>by
  simp only [bg]
  cases D x.1
  ·exact vJ st D r
  ·simp only [aK,St.put]
   unfold C7
   split<;>simp [vJ st D r]
theorem gN {st:St} {D D':Nat->Bool}:∀ {F:mg},(∀ x ∈ F,D x.1=D' x.1)->bg st D F=bg st D' F
 | [],_=>rfl
 |x::r,h=>by
  simp only [bg]
  rw [h x (by simp),gN (F:=r) λy hy=>h y (by simp [hy])]
theorem Ki {st:St} {D D':Nat->Bool} {m:Nat}:∀ {F:mg},(∀ x ∈ F,D' x.1=true->D x.1=true)->(∀ x ∈ F,D x.1=true->D' x.1=false->m ∉ bu x.2.2.upd)->
 (bg st D F).hp m=(bg st D' F).hp m
 | [],_,_=>rfl
 |x::r,h1,h2=>by
  have ih:=Ki (st:=st) (D:=D) (D':=D') (m:=m) (F:=r) (λy hy=>h1 y (by simp [hy])) (λy hy=>h2 y (by simp [hy]))
  simp only [bg]
  cases hd':D' x.1
  ·cases hd:D x.1
   ·exact ih
   ·simp only [aK,aT,St.put]
    rw [eJ _ (h2 x (by simp) hd hd')]
    exact ih
  ·rw [h1 x (by simp) hd']
   simp only [aK,St.put]
   exact xY _ ih
theorem Io {st:St} {dst:Option Tmp} {v:SV} {t:Nat} (h:dst≠some t):(C7 st dst v).getD t .gu=st.tm.getD t .gu:=by
 cases dst with
 |none=>rfl
 |some d=>
  have:d≠t:=λe=>h (by rw [e])
  simp [C7,fP,List.getElem?_set_ne this]
theorem akH {st st':St} {dst:Option Tmp} {v:SV} {t:Nat} (hl:st.tm.length=st'.tm.length) (h:st.tm.getD t .gu=st'.tm.getD t .gu):(C7 st dst v).getD t .gu=(C7 st' dst v).getD t .gu:=by
 cases dst with
 |none=>exact h
 |some d=>
  by_cases e:d=t
  ·subst e
   simp only [C7,fP,List.getElem?_set,if_true,hl]
  ·rw [Io (by simpa using e),Io (by simpa using e)]
   exact h
theorem WQ {st:St} {D D':Nat->Bool} {t:Nat}:∀ {F:mg},(∀ x ∈ F,D' x.1=true->D x.1=true)->(∀ x ∈ F,D x.1=true->D' x.1=false->x.2.1.dst≠some t)->
 (bg st D F).tm.getD t .gu=(bg st D' F).tm.getD t .gu
 | [],_,_=>rfl
 |x::r,h1,h2=>by
  have ih:=WQ (st:=st) (D:=D) (D':=D') (t:=t) (F:=r) (λy hy=>h1 y (by simp [hy])) (λy hy=>h2 y (by simp [hy]))
  simp only [bg]
  cases hd':D' x.1
  ·cases hd:D x.1
   ·exact ih
   ·simp only [aK,aT,St.put]
    rw [Io (h2 x (by simp) hd hd')]
    exact ih
  ·rw [h1 x (by simp) hd']
   simp only [aK,St.put]
   exact akH (by rw [vJ,vJ]) ih
theorem BI {st:St} {D:Nat->Bool} {i:Nat} {o:Oper} {e:Eff}:∀ {F:mg},(i,o,e) ∈ F->(∀ x ∈ F,x.1=i->x=(i,o,e))->F.Pairwise (λx y=>y.1<x.1)->D i=false->
 (∀ x ∈ F,D x.1=true->i<x.1->(∀ t,o.dst=some t->x.2.1.dst≠some t)/\∀ m,m ∈ bu e.upd->m ∉ bu x.2.2.upd)->
 bg st (λk=>D k||Nat.beq k i) F=(bg st D F).put o.dst e
 | [],hm,_,_,_,_=>by cases hm
 |x::r,hm,hu,hp,hD,hc=>by
  have hp':=List.pairwise_cons.1 hp
  simp only [bg]
  by_cases hx:x.1=i
  ·have:=hu x (by simp) hx
   subst this
   simp only [hD,Bool.false_or,Nat.beq_refl,aK,aT]
   congr 1
   exact gN λy hy=>by
    have:y.1≠i:=Nat.ne_of_lt (hp'.1 y hy)
    simp [this]
  ·have hmr:(i,o,e) ∈ r:=by
    rcases List.mem_cons.1 hm with h|h
    ·exact absurd (by rw [<-h]) hx
    ·exact h
   have hlt:i<x.1:=hp'.1 _ hmr
   have ih:=BI (st:=st) (F:=r) hmr (λy hy=>hu y (by simp [hy])) hp'.2 hD (λy hy=>hc y (by simp [hy]))
   have hb:Nat.beq x.1 i=false:=by
    cases hq:Nat.beq x.1 i
    ·rfl
    ·exact absurd (aY hq) hx
   simp only [hb,Bool.or_false]
   cases hd:D x.1
   ·exact ih
   ·simp only [aK]
    obtain ⟨c1,c2⟩:=hc x (by simp) hd hlt
    rw [ih,put_comm c1 c2]
end Sx
end
section
namespace Sx
open Go
section
variable {te:TE} {Φ:Env} {ops:Array Oper} {bs:Array Nat} {H:Hid} {st:St}
structure aBu (te:TE) (Φ:Env) (ops:Array Oper) (bs:Array Nat) (H:Hid) (st:St) (r:mg) (i:Nat) (o:Oper) (e:Eff):Prop where
 run:∃ b,guarded ops.toList (bg st (cZ bs i) r).tm o=some b/\
  (b=true->(L9 te Φ (aAu (hid H i) (bg st (cZ bs i) r).hp) (fC i o) (bg st (cZ bs i) r).eval o.op).run=some (.ret e)/\Wo H i o e.upd=true)/\(b=false->e=⟨.undef,[]⟩)
 upd:ZJ Φ bs ops.toList st i o r e.upd=true
def Good (te:TE) (Φ:Env) (ops:Array Oper) (bs:Array Nat) (H:Hid) (st:St):mg->Prop
 | []=>True
 |x::r=>x.1=r.length/\ops[r.length]? =some x.2.1/\aBu te Φ ops bs H st r x.1 x.2.1 x.2.2/\Good te Φ ops bs H st r
theorem Good.mem:∀ {F:mg},Good te Φ ops bs H st F->∀ x ∈ F,x.1<F.length/\ops[x.1]? =some x.2.1
 | [],_,x,hx=>by grind
 |y::r,hg,x,hx=>by
  rcases List.mem_cons.1 hx with h|h
  ·subst h
   exact ⟨by rw [hg.1];simp,by rw [hg.1];exact hg.2.1⟩
  ·obtain ⟨h1,h2⟩:=Good.mem hg.2.2.2 x h
   grind
def auz (te:TE) (Φ:Env) (ops:Array Oper) (bs:Array Nat) (K:SE->St->Prop) (st:St) (F:mg):Prop:=
 ∃ o v u,ops[F.length]? =some o/\(∀ k,k<F.length->cZ bs F.length k=true)/\guarded ops.toList (bg st (λ_=>true) F).tm o=some true/\
  (L9 te Φ (bg st (λ_=>true) F).hp (fC F.length o) (bg st (λ_=>true) F).eval o.op).run=some (.pan v u)/\
  K (.pan v) ⟨(bg st (λ_=>true) F).tm,cO (bg st (λ_=>true) F).hp u⟩
theorem axY {i:Nat} (h:lV H i=false):hid H i= []:=by grind [hid,lV,List.flatMap_eq_nil_iff]
theorem Ap {K:SE->St->Prop}:∀ (l:List Oper) (done:mg),Good te Φ ops bs H st done->(∀ k,l[k]? =ops[done.length+k]?)->gU te Φ ops.toList bs H K st done.length l done->
 ∃ F,Good te Φ ops bs H st F/\((F.length=done.length+l.length/\K .normal (bg st (λ_=>true) F))\/(F.length+1=done.length+l.length/\auz te Φ ops bs K st F))
 | [],done,hg,_,h=>⟨done,hg,.inl ⟨rfl,h⟩⟩
 |o::r,done,hg,hl,h=>by
  have ho:ops[done.length]? =some o:=by have:=hl 0;simpa using this.symm
  have hl':∀ k,r[k]? =ops[done.length+1+k]? :=λk=>by
   have:=hl (k+1)
   grind
  simp only [gU] at h
  split at h
  ·exact h.elim
  ·rename_i b hb
   cases b
   ·obtain ⟨F,h1,h2⟩:=Ap r ((done.length,o,⟨.undef,[]⟩)::done) ⟨rfl,ho,⟨(by grind),rfl⟩,hg⟩ hl' h
    grind [List.length_cons]
   ·obtain ⟨out,h1,h2⟩:=OT.Hk h
    cases out with
    |pan v u=>
     cases hq:VE bs H r done.length
     ·rw [hq] at h2;exact h2.elim
     ·rw [hq] at h2
      simp only [VE,aw,List.isEmpty_iff,Bool.not_eq_true',fX] at hq
      obtain ⟨rfl,hc,hp⟩:=hq
      have hpre:∀ k,k<done.length->cZ bs done.length k=true:=λk hk=>hp k (by simpa using hk)
      have hs:bg st (cZ bs done.length) done=bg st (λ_=>true) done:=gN λx hx=>hpre x.1 (Good.mem hg x hx).1
      rw [hs] at h1 hb
      exact ⟨done,hg,.inr ⟨rfl,o,v,u,ho,hpre,hb,by rw [show hid H done.length= [] from axY hc] at h1;exact h1,h2⟩⟩
    |ret e=>
     simp only at h2
     cases hu:ZJ Φ bs ops.toList st done.length o done e.upd
     ·grind
     ·cases hv:Wo H done.length o e.upd
      ·grind
      rw [hu,hv] at h2
      obtain ⟨F,h4,h5⟩:=Ap r ((done.length,o,e)::done) ⟨rfl,ho,⟨(by grind),hu⟩,hg⟩ hl' h2
      grind
theorem Good.pairwise:∀ {F:mg},Good te Φ ops bs H st F->F.Pairwise (λx y=>y.1<x.1)
 | [],_=>by simp
 |y::r,hg=>List.pairwise_cons.2 ⟨λx hx=>by rw [hg.1];exact (Good.mem hg.2.2.2 x hx).1,Good.pairwise hg.2.2.2⟩
theorem Good.aHW:∀ {F:mg},Good te Φ ops bs H st F->∀ x ∈ F,∀ y ∈ F,x.1=y.1->x=y
 | [],_,x,hx,_,_,_=>by grind
 |z::r,hg,x,hx,y,hy,he=>by
  rcases List.mem_cons.1 hx with h|h<;>rcases List.mem_cons.1 hy with h'|h'
  ·grind
  ·have:=(Good.mem hg.2.2.2 y h').1
   rw [h,hg.1] at he
   omega
  ·have:=(Good.mem hg.2.2.2 x h).1
   rw [h',hg.1] at he
   omega
  ·exact Good.aHW hg.2.2.2 x h y h' he
theorem Good.at:∀ {F:mg},Good te Φ ops bs H st F->∀ i,i<F.length->∃ o e r,(i,o,e) ∈ F/\(∀ y ∈ r,y ∈ F)/\r.length=i/\(∀ D:Nat->Bool,(∀ k,i<=k->D k=false)->bg st D F=bg st D r)/\Good te Φ ops bs H st r/\aBu te Φ ops bs H st r i o e
 | [],_,i,h=>by grind
 |y::r,hg,i,h=>by
  by_cases hi:i=r.length
  ·subst hi
   have h1:y.1=r.length:=hg.1
   refine ⟨y.2.1,y.2.2,r,?_,(by grind),rfl,λD hD=> ?_,hg.2.2.2,?_⟩
   ·rw [<-h1];simp
   ·grind [bg]
   ·have:=hg.2.2.1
    grind
  ·have hlt:i<r.length:=by grind
   obtain ⟨o,e,r',h1,h2,h3,h4,h5,h6⟩:=Good.at hg.2.2.2 i hlt
   refine ⟨o,e,r',by grind,(by grind),h3,λD hD=> ?_,h5,h6⟩
   simp [bg]
   rw [hD y.1 (by rw [hg.1];omega)]
   grind
theorem axP {d n:Nat} (h:V0 d n=true):lU d n:=aY h
theorem Good.names:∀ {F:mg},Good te Φ ops bs H st F->∀ x ∈ F,∀ m ∈ bu x.2.2.upd,(lU (fC x.1 x.2.1) m/\st.hp m=none)\/
 (fE Φ x.2.1.op=2/\(st.hp m≠none\/∃ y ∈ F,cZ bs x.1 y.1=true/\lU (fC y.1 y.2.1) m/\y.2.2.upd≠ []))
 | [],_,x,hx,_,_=>by grind
 |z::r,hg,x,hx,m,hm=>by
  rcases List.mem_cons.1 hx with h|h
  ·subst h
   obtain ⟨c,hc,rfl⟩:=List.mem_map.1 hm
   have hu:=hg.2.2.1.upd
   unfold ZJ at hu
   have hne:x.2.2.upd.isEmpty=false:=by
    grind
   rw [hne,Bool.false_or,aw,fX,fX] at hu
   have h1:=hu.2 c hc
   simp at h1
   grind [axP]
  ·rcases Good.names hg.2.2.2 x h m hm with h1|⟨h1,h2|⟨y,hy,h3⟩⟩
   ·grind
   ·grind
   grind
theorem tk {o:Oper} {i:Nat} (h:ops[i]? =some o):ops.getD i default=o:=by simp_all
theorem Good.own:∀ {F:mg},Good te Φ ops bs H st F->∀ x ∈ F,x.2.2.upd≠ []->∀ (k:Nat) (o:Oper),ops[k]? =some o->k≠x.1->fC k o≠fC x.1 x.2.1
 | [],_,x,hx,_,_,_,_,_=>by grind
 |z::r,hg,x,hx,hne,k,o,hk,hkx=>by
  rcases List.mem_cons.1 hx with h|h
  ·subst h
   have hu:=hg.2.2.1.upd
   unfold ZJ at hu
   have hne:x.2.2.upd.isEmpty=false:=by
    grind
   rw [hne,Bool.false_or,aw,fX] at hu
   have hlt:k<ops.size:=by
    grind
   have h1:=hu.1 k (by grind)
   grind [absurd,aY,Nat.beq_refl]
  ·exact Good.own hg.2.2.2 x h hne k o hk hkx
def CA (bs:Array Nat) (n:Nat) (D:Nat->Bool):Prop:=∀ k,k<n->D k=true->∀ l,cZ bs k l=true->D l=true
theorem Good.origin {F:mg} (hF:Good te Φ ops bs H st F) {D:Nat->Bool} (hD:CA bs F.length D) {m:Nat} (hm:st.hp m=none):∀ (L:mg),(∀ x ∈ L,x ∈ F)->(bg st D L).hp m≠none->
 ∃ y ∈ F,D y.1=true/\lU (fC y.1 y.2.1) m/\y.2.2.upd≠ []
 | [],_,h=>absurd hm h
 |x::r,hL,h=>by
  have ih:=Good.origin hF hD hm r (by grind)
  simp [bg] at h
  cases hd:D x.1
  ·grind
  ·rw [hd] at h
   simp [St.put] at h
   by_cases hn:m ∈ bu x.2.2.upd
   ·have hx:=hL x (by simp)
    rcases hF.names x hx m hn with ⟨h1,_⟩|⟨_,h1|⟨y,hy,h2,h3,h4⟩⟩
    ·grind [bu]
    ·grind
    ·exact ⟨y,hy,hD x.1 (hF.mem x hx).1 hd _ h2,h3,h4⟩
   grind [eJ]
theorem zm {D:Nat->Bool} {m:Nat} (hm:st.hp m≠none):∀ (L:mg),(bg st D L).hp m≠none
 | []=>hm
 |x::r=>by
  have ih:=zm (D:=D) hm r
  simp [bg]
  cases D x.1
  ·grind
  ·exact Nc _ ih
end
end Sx
end
section
namespace Sx
open Go
theorem dI {a b:Nat} (h:Nat.blt a b=true):a<b:=by simp_all
theorem Ye {a b:Nat} (h:a<b):Nat.blt a b=true:=by simp_all
section
variable {te:TE} {Φ:Env} {ops:Array Oper} {bs:Array Nat} {H:Hid} {st:St}
structure Pq (Φ:Env) (ops:Array Oper) (i j:Nat) (x y:Oper):Prop where
 xy:∀ d,x.dst=some d->d ∉ y.looksAt ops
 dd:∀ d,x.dst=some d->y.dst≠some d
 yx:∀ d,y.dst=some d->d ∉ x.looksAt ops
 slot:fC i x≠fC j y
theorem Pq.symm {i j:Nat} {x y:Oper} (h:Pq Φ ops i j x y):Pq Φ ops j i y x:=
 ⟨h.yx,λd hd he=>h.dd d he hd,h.xy,λe=>h.slot e.symm⟩
theorem yo {a b:Nat} (h:Nat.beq a b=false):a≠b:=by grind [Nat.beq_refl]
theorem Yj (hok:e9 Φ ops bs=true) {i j:Nat} {x y:Oper} (hx:ops[i]? =some x) (hy:ops[j]? =some y) (hij:i<j) (h:cZ bs j i=false):Pq Φ ops i j x y:=by
 have hj:j<ops.size:=by
  grind
 unfold e9 at hok
 rw [fX] at hok
 have h1:=hok j (by grind)
 rw [aw,fX] at h1
 have h2:=h1.2 i (by grind)
 unfold aAh at h2
 simp [tk hx,tk hy,h] at h2
 obtain ⟨h3,h4⟩:=h2
 obtain ⟨a1,a2,a3⟩:=Oper.apart_spec h3
 exact ⟨a1,a2,a3,yo h4⟩
theorem ahE {i j:Nat} {x y:Oper} (hx:ops[i]? =some x) (hy:ops[j]? =some y) (hij:i<j) (h:cZ bs j i=false) (hk:(fE Φ x.op=2/\fE Φ y.op≠0)\/(fE Φ y.op=2/\fE Φ x.op≠0)):(i,j) ∈ zB Φ ops bs:=by
 have hj:j<ops.size:=by
  grind
 refine List.mem_flatMap.2 ⟨j,by grind,List.mem_flatMap.2 ⟨i,by grind,?_⟩⟩
 have:as1 Φ ops bs i j=true:=by
  unfold as1
  simp
  grind [Nat.beq,absurd,aY]
 grind
theorem aAv (hH:H.1=zB Φ ops bs) {i j:Nat} {x y:Oper} (hx:ops[i]? =some x) (hy:ops[j]? =some y) (hij:i≠j) (h:cZ bs j i=false) (h':cZ bs i j=false) (hk:(fE Φ x.op=2/\fE Φ y.op≠0)\/(fE Φ y.op=2/\fE Φ x.op≠0)):
 lV H i=true/\lV H j=true/\(∀ n ∈ H.2.getD j [],n ∈ hid H i)/\(∀ n ∈ H.2.getD i [],n ∈ hid H j):=by
 have nb:∀ {a b:Nat},a≠b->Nat.beq a b=false:=λ{a b} h=>by
  grind [aY]
 unfold lV hid
 rcases Nat.lt_or_gt_of_ne hij with hlt|hlt
 ·have hm:=ahE hx hy hlt h hk
  grind [Nat.beq_refl]
 ·have hm:=ahE hy hx hlt h' hk.symm
  grind [Nat.beq_refl]
theorem arl {R:List Nat} {hp:Hp} {n:Nat} {ch:Ch} (h:aAu R hp n=some ch):n ∉ R/\hp n=some ch:=by
 cases R with
 |nil=>exact ⟨by simp,h⟩
 |cons a r=>
  have h:cond ((a::r).any λm=>Nat.beq m n) none (hp n)=some ch:=h
  grind [Nat.beq_refl]
theorem agW {R:List Nat} {hp:Hp} {n:Nat} (h:n ∉ R):aAu R hp n=hp n:=by
 cases R with
 |nil=>rfl
 |cons a r=>
  show cond ((a::r).any λm=>Nat.beq m n) none (hp n)=hp n
  grind [aY]
theorem arm {i n:Nat} (h:n ∈ hid H i):lV H i=true:=by
 obtain ⟨p,hp,h⟩:=List.mem_flatMap.1 h
 refine List.any_eq_true.2 ⟨p,hp,?_⟩
 grind
theorem qn {i:Nat} {o:Oper} {u:List (Nat×Ch)} (h:Wo H i o u=true) (hc:lV H i=true):
 (∀ m ∈ bu u,m ∈ H.2.getD i []/\m ∉ hid H i)/\∀ n ∈ hid H i,¬lU (fC i o) n:=by
 unfold Wo at h
 refine ⟨λm hm=> ?_,λn hn hb=> ?_⟩
 ·obtain ⟨c,hc,rfl⟩:=List.mem_map.1 hm
  grind [aY]
 grind [Bool.not_eq_true',lU,V0,Nat.beq_refl]
theorem Good.hid:∀ {F:mg},Good te Φ ops bs H st F->∀ x ∈ F,x.2.2.upd≠ []->Wo H x.1 x.2.1 x.2.2.upd=true
 | [],_,x,hx,_=>by grind
 |z::r,hg,x,hx,hne=>by
  rcases List.mem_cons.1 hx with h|h
  ·obtain ⟨b,h1,h2,h3⟩:=hg.2.2.1.run
   grind
  ·exact Good.hid hg.2.2.2 x h hne
theorem beside (hok:e9 Φ ops bs=true) {i j:Nat} {x y:Oper} (hx:ops[i]? =some x) (hy:ops[j]? =some y) (hij:i≠j) (h:cZ bs j i=false) (h':cZ bs i j=false):Pq Φ ops i j x y:=by
 rcases Nat.lt_or_gt_of_ne hij with hlt|hlt
 ·grind [Yj]
 ·exact (Yj hok hy hx hlt h').symm
theorem EA (hok:e9 Φ ops bs=true) {i:Nat} {o:Oper} (ho:ops[i]? =some o):
 (∀ e ∈ o.after,Region.binds .any e=true->e.on<i/\cZ bs i e.on=true)/\
 ∀ k,cZ bs i k=true->(∀ l,cZ bs k l=true->cZ bs i l=true)/\∃ e ∈ o.after,Region.binds .any e=true/\(e.on=k\/cZ bs e.on k=true):=by
 have hi:i<ops.size:=by
  grind
 unfold e9 at hok
 rw [fX] at hok
 have h1:=hok i (by simpa using hi)
 rw [aw] at h1
 have h2:=h1.1
 unfold aA5 at h2
 rw [aw,tk ho,Array.all_eq_true_iff_forall_mem,fX] at h2
 refine ⟨λe he hb=> ?_,λk hk=> ?_⟩
 ·have h3:=h2.1 e he
  simp_all [Bool.not_true,Bool.false_or,aw,dI,cZ]
 ·unfold cZ at hk
  rw [aw] at hk
  have h3:=h2.2 k (by simpa using dI hk.1)
  rw [hk.2] at h3
  refine ⟨λl hl=> ?_,?_⟩
  ·unfold cZ at hl⊢
   rw [aw] at hl⊢
   refine ⟨Ye (Nat.lt_trans (dI hl.1) (dI hk.1)),?_⟩
   grind [aY]
  grind [aY]
theorem amW (hok:e9 Φ ops bs=true) {n i:Nat} (hi:i<ops.size):CA bs n (cZ bs i):=λk _ hk l hl=>
 ((EA hok (Array.getElem?_eq_getElem hi)).2 k hk).1 l hl
structure At (te:TE) (Φ:Env) (ops:Array Oper) (bs:Array Nat) (st:St) (F:mg) (D:Nat->Bool) (i:Nat) (o:Oper) (e:Eff):Prop where
 guard:∃ b,guarded ops.toList (bg st D F).tm o=some b/\(b=true->(L9 te Φ (bg st D F).hp (fC i o) (bg st D F).eval o.op).run=some (.ret e))/\(b=false->e=⟨.undef,[]⟩)
 put:bg st (λk=>D k||Nat.beq k i) F=(bg st D F).put o.dst e
theorem Rz {tm tm':List SV} {o:Oper} (h:∀ t ∈ o.looksAt ops,tm.getD t .gu=tm'.getD t .gu):guarded ops.toList tm o=guarded ops.toList tm' o:=by grind [guarded,bind,Oper.looksAt]
theorem aDG (op:Op):fE Φ op=0\/fE Φ op=1\/fE Φ op=2:=by
 unfold fE
 grind
theorem aGw (hm:ob Φ) (hH:H.1=zB Φ ops bs) (hok:e9 Φ ops bs=true) {F:mg} (hF:Good te Φ ops bs H st F) {D:Nat->Bool} (hD:CA bs F.length D) {i:Nat} (hi:i<ops.size) (hl:i<F.length) (hDi:D i=false)
 (hpre:∀ k,cZ bs i k=true->D k=true):∃ o e,ops[i]? =some o/\At te Φ ops bs st F D i o e:=by
 obtain ⟨o,e,r,hmem,hr,hrl,hback,hgr,hgo⟩:=hF.at i (by omega)
 have ho:ops[i]? =some o:=(hF.mem _ hmem).2
 refine ⟨o,e,ho,?_⟩
 --those that are done and needn't come ahead
 have side:∀ x ∈ F,D x.1=true->cZ bs i x.1=false->Pq Φ ops i x.1 o x.2.1/\cZ bs x.1 i=false/\x.1≠i:=λx hx hd hn=>by
  have hne:i≠x.1:=λe=>by rw [e,hd] at hDi;cases hDi
  have h2:cZ bs x.1 i=false:=by
   cases hq:cZ bs x.1 i
   ·rfl
   ·rw [hD x.1 (hF.mem x hx).1 hd i hq] at hDi;cases hDi
  exact ⟨beside hok ho (hF.mem x hx).2 hne h2 hn,h2,λe=>hne e.symm⟩
 have hsame:bg st (cZ bs i) F=bg st (cZ bs i) r:=hback _ λk hk=>by
  unfold cZ
  have:Nat.blt k i=false:=by
   cases hq:Nat.blt k i
   ·rfl
   ·have:=dI hq;omega
  rw [this];rfl
 obtain ⟨b,hb1,hb2,hb3⟩:=hgo.run
 rw [<-hsame] at hb1 hb2
 have htm:∀ t ∈ o.looksAt ops,(bg st D F).tm.getD t .gu=(bg st (cZ bs i) F).tm.getD t .gu:=λt ht=>
  WQ (λx _ h=>hpre _ h) λx hx hd hn he=>(side x hx hd hn).1.yx t he ht
 have hev:∀ x ∈ o.op.operands,(bg st D F).eval x=(bg st (cZ bs i) F).eval x:=λx hx=>by
  cases x with
  |tmp t=>
   exact htm t (by
    unfold Oper.looksAt
    exact List.mem_append_left _ (List.mem_filterMap.2 ⟨.tmp t,by simpa using hx,rfl⟩))
  |const v=>rfl
  |global g=>rfl
  |func f=>rfl
 have hown:=hF.own _ hmem
 have hnone:∀ n,lU (fC i o) n->((bg st (cZ bs i) F).hp n=none ↔ (bg st D F).hp n=none):=λn hn=>by
  by_cases hs:st.hp n=none
  ·have:(bg st D F).hp n=(bg st (cZ bs i) F).hp n:=Ki (λx _ h=>hpre _ h) λx hx hd hp hin=>by
    obtain ⟨s1,s2,s3⟩:=side x hx hd hp
    rcases hF.names x hx n hin with ⟨h1,_⟩|⟨_,h1|⟨y,hy,h2,h3,h4⟩⟩
    ·exact s1.slot (by unfold lU at hn h1;omega)
    ·exact h1 hs
    ·by_cases hyi:y.1=i
     ·rw [hyi,s2] at h2;cases h2
     ·exact hF.own y hy h4 i o ho (λe=>hyi e.symm) (by unfold lU at hn h3;omega)
   rw [this]
  ·exact ⟨λh=>absurd h (zm hs F),λh=>absurd h (zm hs F)⟩
 refine ⟨⟨b,(Rz htm).trans hb1,λhb=> ?_,hb3⟩,?_⟩
 ·obtain ⟨h0,hh⟩:=hb2 hb
  have hfree:∀ n,lU (fC i o) n->n ∉ hid H i:=λn hn hm=>(qn hh (arm hm)).2 n hm hn
  rw [amR hev]
  rcases aDG (Φ:=Φ) o.op with hk|hk
  ·rw [asR (d:=fC i o) (hp:=aAu (hid H i) (bg st (cZ bs i) F).hp) (λn hn=>by rw [agW (hfree n hn)];exact hnone n hn) hk]
   exact h0
  ·refine amQ hm (d:=fC i o) (hp:=aAu (hid H i) (bg st (cZ bs i) F).hp) ⟨λc ch hc=> ?_,λn hn h=>(hnone n hn).1 (by rw [agW (hfree n hn)] at h;exact h)⟩ h0
   obtain ⟨hcn,hc⟩:=arl hc
   rw [<-hc]
   refine Ki (λx _ h=>hpre _ h) λx hx hd hp hin=> ?_
   obtain ⟨s1,s2,s3⟩:=side x hx hd hp
   have hk2:fE Φ x.2.1.op≠2:=λe=>by
    have hk0:fE Φ o.op≠0:=by omega
    obtain ⟨_,q2,q3,_⟩:=aAv hH ho (hF.mem x hx).2 (Ne.symm s3) s2 hp (.inr ⟨e,hk0⟩)
    have hne:x.2.2.upd≠ []:=λhq=>by rw [hq] at hin;simp [bu] at hin
    exact hcn (q3 c ((qn (hF.hid x hx hne) q2).1 c hin).1)
   rcases hF.names x hx c hin with ⟨h1,h2⟩|⟨h1,_⟩
   ·obtain ⟨y,hy,y1,y2,y3⟩:=hF.origin (amW hok hi) h2 F (λ_ h=>h) (by rw [hc];simp)
    by_cases hxy:y.1=x.1
    ·rw [hxy,hp] at y1;cases y1
    ·exact hF.own y hy y3 x.1 x.2.1 (hF.mem x hx).2 (λe=>hxy e.symm) (by unfold lU at h1 y2;omega)
   ·exact hk2 h1
 ·refine BI hmem (λx hx he=>hF.aHW x hx _ hmem he) hF.pairwise hDi λx hx hd hlt=> ?_
  have hn:cZ bs i x.1=false:=by
   unfold cZ
   have:Nat.blt x.1 i=false:=by
    cases hq:Nat.blt x.1 i
    ·rfl
    ·have:=dI hq;omega
   rw [this];rfl
  obtain ⟨s1,s2,s3⟩:=side x hx hd hn
  refine ⟨s1.dd,λm hm1 hm2=> ?_⟩
  have hne:e.upd≠ []:=λhq=>by rw [hq] at hm1;simp [bu] at hm1
  have hne':x.2.2.upd≠ []:=λhq=>by rw [hq] at hm2;simp [bu] at hm2
  have n1:=hF.names _ hmem m hm1
  have n2:=hF.names x hx m hm2
  simp only at n1
  rcases n1 with ⟨a1,a2⟩|⟨a1,a2⟩
  ·rcases n2 with ⟨b1,b2⟩|⟨b1,b2|⟨y,hy,b2,b3,b4⟩⟩
   ·exact s1.slot (by unfold lU at a1 b1;omega)
   ·exact b2 a2
   ·by_cases hyi:y.1=i
    ·rw [hyi,s2] at b2;cases b2
    ·exact hF.own y hy b4 i o ho (λe=>hyi e.symm) (by unfold lU at a1 b3;omega)
  ·rcases n2 with ⟨b1,b2⟩|⟨b1,_⟩
   ·rcases a2 with a2|⟨y,hy,a2,a3,a4⟩
    ·exact a2 b2
    ·by_cases hyx:y.1=x.1
     ·rw [hyx] at a2
      rw [hn] at a2;cases a2
     ·exact hF.own y hy a4 x.1 x.2.1 (hF.mem x hx).2 (λe=>hyx e.symm) (by unfold lU at b1 a3;omega)
   ·obtain ⟨q1,q2,q3,_⟩:=aAv hH ho (hF.mem x hx).2 (Ne.symm s3) s2 hn (.inl ⟨a1,by rw [b1];decide⟩)
    exact ((qn (hF.hid _ hmem hne) q1).1 m hm1).2 (q3 m ((qn (hF.hid x hx hne') q2).1 m hm2).1)
end
end Sx
end
section
namespace Sx
open Go
def dB (listed:Array Bool) (k:Nat):Bool:=listed.getD k false
theorem Om {listed:Array Bool} {i:Nat} (hi:i<listed.size):dB (listed.setIfInBounds i true)=λk=>dB listed k||Nat.beq k i:=by
 funext k
 unfold dB
 by_cases h:k=i
 ·simp_all
 simp_all [Ne.symm]
theorem cz.drew {R:Ctx} {w:World} (h:cz R w) (n:Nat):cz R {w with drawn:=n}:=by
 refine ⟨h.F,h.U,λc ch hc=> ?_,h.apart,h.FU,h.env⟩
 have:=h.ch c ch hc
 exact this
section
variable {P:Program} {te:TE} {Φ:Env} {ops:Array Oper} {bs:Array Nat} {H:Hid} {st:St}
theorem OR (hok:e9 Φ ops bs=true) {listed:Array Bool} (hs:listed.size=ops.size) (hr:Region.ready .any ops listed= []):∀ k,k<ops.size->dB listed k=true:=by
 intro k
 induction k using Nat.strongRecOn with
 |ind k ih=>
  intro hk
  cases hq:dB listed k
  ·have:k ∈ Region.ready .any ops listed:=mem_ready.2 ⟨by
    grind [dB],ops[k],(by simp),λe he hb=>by
     have:=((EA hok (Array.getElem?_eq_getElem hk)).1 e he hb).1
     exact ih e.on this (by omega)⟩
   grind
  rfl
theorem aif (hte:kq P te) (hΦ:oa P Φ) (hmono:ob Φ) (hH:H.1=zB Φ ops bs) (hok:e9 Φ ops bs=true) {F:mg} (hF:Good te Φ ops bs H st F) (hl:F.length=ops.size)
 {R₀:Ctx} {K:SE->St->Prop} {Q:Exit->Act->World->Prop} (hK:o5 R₀ K Q) (hend:K .normal (bg st (λ_=>true) F)):
 ∀ (fuel:Nat) (listed:Array Bool) (R:Ctx) (a:Act) (w:World),listed.size=ops.size->listed.toList.count false=fuel->CA bs F.length (dB listed)->R₀.Ext R->
  iT R (bg st (dB listed) F) a w->wpAny P .any ops Q fuel listed a w:=by
 have done:∀ (listed:Array Bool) (R:Ctx) (a:Act) (w:World),(∀ k,k<ops.size->dB listed k=true)->R₀.Ext R->iT R (bg st (dB listed) F) a w->Q .normal a w:=λlisted R a w h hx hst=>by
  rw [gN (D':=λ_=>true) λx hx=>h x.1 (by have:=(hF.mem x hx).1;omega)] at hst
  exact hK.normal R _ a w hx hst hend
 intro fuel
 induction fuel with
 |zero=>
  intro listed R a w hs hc hD hx hst
  have hall:∀ k,k<ops.size->dB listed k=true:=λk hk=>by
   have hk':k<listed.size:=by omega
   have h1:=List.count_eq_zero.1 hc
   unfold dB
   cases hq:listed[k]
   ·grind
   ·simp [hk',hq]
  refine ⟨?_,done listed R a w hall hx hst⟩
  simp_all [Region.ready,mem_ready,Array.getElem?_eq_some_iff,dB]
 |succ fuel ih=>
  intro listed R a w hs hc hD hx hst
  refine ⟨λhr=>done listed R a w (OR hok hs hr) hx hst,λi hi=> ?_⟩
  obtain ⟨h1,o,ho,h2⟩:=mem_ready.1 hi
  have hi':i<ops.size:=(Array.getElem?_eq_some_iff.1 ho).1
  have hil:i<listed.size:=by omega
  have hnot:listed[i]=false:=by simpa [hil] using h1
  have hDi:dB listed i=false:=by unfold dB;simp [hil,hnot]
  have hpre:∀ k,cZ bs i k=true->dB listed k=true:=λk hk=>by
   obtain ⟨e,he,hb,h3|h3⟩:=((EA hok ho).2 k hk).2
   ·rw [<-h3];exact h2 e he hb
   ·have h4:=((EA hok ho).1 e he hb).1
    exact hD e.on (by omega) (h2 e he hb) k h3
  obtain ⟨o',e,ho',hat⟩:=aGw hmono hH hok hF hD hi' (by omega) hDi hpre
  rw [ho] at ho'
  cases ho'
  have hset:=Om hil
  have hcount:(listed.setIfInBounds i true).toList.count false=fuel:=by
   grind
  have hclosed:CA bs F.length (dB (listed.setIfInBounds i true)):=λk hk hd l hpl=>by
   rw [hset] at hd⊢
   simp only [Bool.or_eq_true] at hd⊢
   rcases hd with hd|hd
   ·exact .inl (hD k hk hd l hpl)
   simp_all
  obtain ⟨b,g1,g2,g3⟩:=hat.guard
  have hw:=gg hst g1
  unfold wpOp
  simp only [ho,hw]
  cases b
  ·refine ih _ R _ _ (by simpa using hs) hcount hclosed hx ?_
   rw [hset,hat.put,g3 rfl]
   exact hst.undef o.dst
  ·simp only [if_true]
   refine .inl (mc hte hΦ hst (g2 rfl) ?_)
   exact λR' w' v ha hv=>ih _ R' _ _ (by simpa using hs) hcount hclosed (hx.trans ha.ext) (by rw [hset,hat.put];exact hst.put ha hv o.dst)
theorem aua (hte:kq P te) (hΦ:oa P Φ) (hmono:ob Φ) (hH:H.1=zB Φ ops bs) (hok:e9 Φ ops bs=true) {F:mg} (hF:Good te Φ ops bs H st F) (hl:F.length+1=ops.size)
 {R₀:Ctx} {K:SE->St->Prop} {Q:Exit->Act->World->Prop} (hK:o5 R₀ K Q) (hp:auz te Φ ops bs K st F):
 ∀ (fuel:Nat) (listed:Array Bool) (R:Ctx) (a:Act) (w:World),listed.size=ops.size->listed.toList.count false=fuel->CA bs F.length (dB listed)->dB listed F.length=false->R₀.Ext R->
  iT R (bg st (dB listed) F) a w->wpAny P .any ops Q fuel listed a w:=by
 obtain ⟨ol,pv,pu,ho0,hpre0,hg0,hc0,hk0⟩:=hp
 intro fuel
 induction fuel with
 |zero=>
  intro listed R a w hs hc hD hlast hx hst
  have hk':F.length<listed.size:=by omega
  have h1:=List.count_eq_zero.1 hc
  unfold dB at hlast
  simp only [Array.getD_eq_getD_getElem?,Array.getElem?_eq_getElem hk',Option.getD_some] at hlast
  grind
 |succ fuel ih=>
  intro listed R a w hs hc hD hlast hx hst
  refine ⟨λhr=>(by grind [OR]),λi hi=> ?_⟩
  obtain ⟨h1,o,ho,h2⟩:=mem_ready.1 hi
  have hi':i<ops.size:=(Array.getElem?_eq_some_iff.1 ho).1
  have hil:i<listed.size:=by omega
  have hnot:listed[i]=false:=by simpa [hil] using h1
  have hDi:dB listed i=false:=by unfold dB;simp [hil,hnot]
  have hpre:∀ k,cZ bs i k=true->dB listed k=true:=λk hk=>by
   obtain ⟨e,he,hb,h3|h3⟩:=((EA hok ho).2 k hk).2
   ·rw [<-h3];exact h2 e he hb
   ·have h4:=((EA hok ho).1 e he hb).1
    exact hD e.on (by omega) (h2 e he hb) k h3
  by_cases hlt:i<F.length
  case neg=>
   have hie:i=F.length:=by omega
   subst hie
   rw [ho] at ho0
   cases ho0
   rw [gN (D':=λ_=>true) λx hx=>hpre x.1 (hpre0 x.1 (hF.mem x hx).1)] at hst
   have hw:=gg hst hg0
   unfold wpOp
   simp only [ho,hw,if_true]
   refine .inl (mc hte hΦ hst hc0 ?_)
   exact λR' w' v ha hv=>hK.pan R' _ a w' pv v (hx.trans ha.ext) (hst.TG ha) hv hk0
  obtain ⟨o',e,ho',hat⟩:=aGw hmono hH hok hF hD hi' hlt hDi hpre
  rw [ho] at ho'
  cases ho'
  have hset:=Om hil
  have hcount:(listed.setIfInBounds i true).toList.count false=fuel:=by
   grind
  have hclosed:CA bs F.length (dB (listed.setIfInBounds i true)):=λk hk hd l hpl=>by
   rw [hset] at hd⊢
   simp only [Bool.or_eq_true] at hd⊢
   rcases hd with hd|hd
   ·exact .inl (hD k hk hd l hpl)
   simp_all
  have hlast':dB (listed.setIfInBounds i true) F.length=false:=by
   grind [aY]
  obtain ⟨b,g1,g2,g3⟩:=hat.guard
  have hw:=gg hst g1
  unfold wpOp
  simp only [ho,hw]
  cases b
  ·refine ih _ R _ _ (by simpa using hs) hcount hclosed hlast' hx ?_
   rw [hset,hat.put,g3 rfl]
   exact hst.undef o.dst
  ·simp only [if_true]
   refine .inl (mc hte hΦ hst (g2 rfl) ?_)
   exact λR' w' v ha hv=>ih _ R' _ _ (by simpa using hs) hcount hclosed hlast' (hx.trans ha.ext) (by rw [hset,hat.put];exact hst.put ha hv o.dst)
theorem aA7 (hm:P.follows .mixedOrders=true) (hte:kq P te) (hΦ:oa P Φ) (hmono:ob Φ):Gi P te Φ:=by
 intro R₀ id ops K Q R st a w hK hx hst hok h
 obtain ⟨F,h1,h2⟩:=Ap (te:=te) (Φ:=Φ) (ops:=ops) (bs:=bitsOf ops) (H:=Wp te Φ ops (bitsOf ops) st) (st:=st) ops.toList [] trivial (by simp) h
 have hd0:∀ k,dB (Array.replicate ops.size false) k=false:=λk=>by simp [dB,Array.getD]
 have hcl:CA (bitsOf ops) F.length (dB (Array.replicate ops.size false)):=λk _ hd=>by grind
 have hst':bg st (dB (Array.replicate ops.size false)) F=st:=by
  rw [gN (D':=λ_=>false) (by grind)]
  clear h h1 h2 hcl
  induction F with
  |nil=>rfl
  |cons y r ih=>exact ih
 rcases h2 with ⟨h2,h3⟩|⟨h2,h3⟩
 ·refine wp_region_any hm (aif hte hΦ hmono Bz hok h1 (by grind) hK h3 ops.size _ R a _ (by simp) (by simp) hcl hx ?_)
  rw [hst']
  exact ⟨hst.hp,hst.mem.drew _,hst.tm,hst.defers⟩
 ·refine wp_region_any hm (aua hte hΦ hmono Bz hok h1 (by grind) hK h3 ops.size _ R a _ (by simp) (by simp) hcl (hd0 _) hx ?_)
  rw [hst']
  exact ⟨hst.hp,hst.mem.drew _,hst.tm,hst.defers⟩
end
end Sx
end
section
namespace Sx
open Go
def uj (ok:Nat->Bool) (t:Ty) (hp:Hp):SV->Option (List t.T)
 |.lst t' xs=>cd t t' xs
 |.emp=>some []
 |.own c e|.clip c e=>match hp c with
  |some ⟨ep,.row t' xs⟩=>cond (Nat.beq ep e&&ok c) (cd t t' xs) none
  |some ⟨ep,.frz t' xs⟩=>cond (Nat.beq ep e) (cd t t' xs) none
  |_=>none
 |.part c e off len=>match hp c with
  |some ⟨ep,.row t' xs⟩=>cond (Nat.beq ep e&&ok c) ((cd t t' xs).map λl=>(l.drop off).take len) none
  |some ⟨ep,.frz t' xs⟩=>cond (Nat.beq ep e) ((cd t t' xs).map λl=>(l.drop off).take len) none
  |_=>none
 |_=>none
def kE (ok:Nat->Bool) (hp:Hp):(t:Ty)->List SV->Option t.T
 |.bool,cs=>ak8 cs
 |.u64,cs=>aEZ cs
 |.u8,cs=>pU8 cs
 |.int,cs=>aE2 cs
 |.str,cs=>aE0 cs
 |.elem,cs=>ak7 cs
 |.prod a b,cs=>sF (kE ok hp a (cs.take a.size)) (kE ok hp b (cs.drop a.size))
 |.arr n t,cs=>if cs.length=n*t.size then (List.range n).mapM λi=>kE ok hp t ((cs.drop (i*t.size)).take t.size) else none
 |.list t,cs=>if 0<t.size then aE1 (uj ok t hp) cs else none
section
variable {R:Ctx} {w:World} {F':Nat->Option Obj} {ok:Nat->Bool} (hm:cz R w) (hF:∀ b o,R.F b=some o->F' b=some o)
 (hok:∀ c ch L,ok c=true->R.hp c=some ch->R.σ c=some L->F' L.block=w.heap[L.block]?)
include hm hF hok
theorem FF {c e off len:Nat} {v:Value} {t:Ty} {xs:List t.T} {b:Chunk} (hc:R.hp c=some ⟨e,b⟩) (hb:(b=.row t xs/\ok c=true)\/b=.frz t xs) (h:R.part c e off len v):
 Rep F' (.list t) ((xs.drop off).take len) [v]:=by
 obtain ⟨h1,h2,ad,cap,rfl,h4,h5⟩:=Ctx.cK hc h
 have hsh:b.shape=(true,t.size,xs.length):=by rcases hb with ⟨rfl,_⟩|rfl<;>rfl
 rw [hsh] at h2 h5
 simp only at h2 h5
 have hlen:((xs.drop off).take len).length=len:=by simp;omega
 have hch:=hm.ch c _ hc
 have key:∀ (L:Loc) (arr:Array Value) (E:TypeId) (fz:Nat×Nat),R.σ c=some L->xs.length<=cL->F' L.block=some (.cells arr E fz)->arr.size=L.base+L.lim->xs.length*t.size<=L.lim->SX R arr L.base t xs->
  Rep F' (.list t) ((xs.drop off).take len) [.slice ad len cap]:=λL arr E fz hσ hmx hbk ha hl hrow=>by
  rw [hσ] at h5
  obtain ⟨h6,h7⟩:=h5
  refine ⟨by omega,ad,cap,by rw [hlen],by omega,?_⟩
  by_cases hl0:len=0
  ·left;exact xk (by omega)
  ·right
   have hle:(off+len)*t.size<=xs.length*t.size:=ck _ h2
   rw [Nat.add_mul] at hle
   refine ⟨L.block,L.base+off*t.size,arr,E,fz,h7 (by omega),hbk,by rw [hlen];omega,λi hi=> ?_⟩
   rw [hlen] at hi
   have e1:((xs.drop off).take len).getD i t.d=xs.getD (off+i) t.d:=by
    grind
   rw [e1,Nat.add_assoc,<-Nat.add_mul]
   exact bR hF _ _ _ (hrow _ (by omega))
 cases hσ:R.σ c with
 |none=>
  simp_all [xk,uA]
 |some L=>
  rcases hb with ⟨rfl,hk⟩|rfl
  ·simp only [eW,hσ] at hch
   obtain ⟨_,hmx,_,_,arr,E,hbk,ha,hl,hrow⟩:=hch
   exact key L arr E _ hσ hmx (by rw [hok c _ L hk hc hσ];exact hbk) ha hl hrow
  ·simp only [eW,hσ] at hch
   obtain ⟨_,hmx,arr,E,fz,hbk,ha,hl,hrow⟩:=hch
   exact key L arr E fz hσ hmx (hF _ _ hbk) ha hl hrow
theorem qR {c e:Nat} {t t':Ty} {xs:List t'.T} {ys:List t.T} {v:Value} {b:Chunk} (hc:R.hp c=some ⟨e,b⟩) (hb:(b=.row t' xs/\ok c=true)\/b=.frz t' xs) (hy:cd t t' xs=some ys) (h:R.own c e v):
 Rep F' (.list t) ys [v]:=by
 obtain ⟨e,rfl⟩:=bi hy
 have:=FF hm hF hok hc hb (Ctx.cV hc h)
 have hsh:b.shape=(true,t'.size,xs.length):=by rcases hb with ⟨rfl,_⟩|rfl<;>rfl
 grind
theorem FE {c e off len:Nat} {t t':Ty} {xs:List t'.T} {ys:List t.T} {v:Value} {b:Chunk} (hc:R.hp c=some ⟨e,b⟩) (hb:(b=.row t' xs/\ok c=true)\/b=.frz t' xs)
 (hy:(cd t t' xs).map (λl=>(l.drop off).take len)=some ys) (h:R.part c e off len v):Rep F' (.list t) ys [v]:=by
 cases hr:cd t t' xs with
 |none=>grind
 |some zs=>
  rw [hr] at hy
  cases hy
  obtain ⟨e,rfl⟩:=bi hr
  subst e
  exact FF hm hF hok hc hb h
theorem Ya {t:Ty} {x:SV} {ys:List t.T} {v:Value} (h:uj ok t R.hp x=some ys) (hx:SV.rel R x v):Rep F' (.list t) ys [v]:=by
 cases x<;>simp only [uj] at h<;>try (cases h;done)
 case lst t' xs=>
  obtain ⟨e,rfl⟩:=bi h
  grind [SV.rel,bR]
 case emp=>
  grind [SV.rel,uA]
 case own c e=>
  simp only [SV.rel] at hx
  split at h
  ·rename_i ep t' xs hc
   cases hb:Nat.beq ep e&&ok c
   ·rw [hb] at h;cases h
   ·rw [hb] at h
    rw [aw] at hb
    have:=aY hb.1
    subst this
    exact qR hm hF hok hc (.inl ⟨rfl,hb.2⟩) h hx.2
  ·rename_i ep t' xs hc
   cases hb:Nat.beq ep e
   ·rw [hb] at h;cases h
   ·rw [hb] at h
    have:=aY hb
    subst this
    exact qR hm hF hok hc (.inr rfl) h hx.2
  ·cases h
 case clip c e=>
  split at h
  ·rename_i ep t' xs hc
   cases hb:Nat.beq ep e&&ok c
   ·rw [hb] at h;cases h
   ·rw [hb] at h
    rw [aw] at hb
    have:=aY hb.1
    subst this
    exact qR hm hF hok hc (.inl ⟨rfl,hb.2⟩) h hx.2.1
  ·rename_i ep t' xs hc
   cases hb:Nat.beq ep e
   ·rw [hb] at h;cases h
   ·rw [hb] at h
    have:=aY hb
    subst this
    exact qR hm hF hok hc (.inr rfl) h hx.2.1
  ·cases h
 case part c e off len=>
  split at h
  ·rename_i ep t' xs hc
   cases hb:Nat.beq ep e&&ok c
   ·rw [hb] at h;cases h
   ·rw [hb] at h
    rw [aw] at hb
    have:=aY hb.1
    subst this
    exact FE hm hF hok hc (.inl ⟨rfl,hb.2⟩) h hx.2
  ·rename_i ep t' xs hc
   cases hb:Nat.beq ep e
   ·rw [hb] at h;cases h
   ·rw [hb] at h
    have:=aY hb
    subst this
    exact FE hm hF hok hc (.inr rfl) h hx.2
  ·cases h
theorem oh:∀ (t:Ty) (cs:List SV) (x:t.T) (vs:List Value),kE ok R.hp t cs=some x->SV.bz R cs vs->Rep F' t x vs
 |.bool,cs,x,vs,h,hr=>bR hF _ _ _ (iF hm .bool cs x vs h hr)
 |.u64,cs,x,vs,h,hr=>bR hF _ _ _ (iF hm .u64 cs x vs h hr)
 |.u8,cs,x,vs,h,hr=>bR hF _ _ _ (iF hm .u8 cs x vs h hr)
 |.int,cs,x,vs,h,hr=>bR hF _ _ _ (iF hm .int cs x vs h hr)
 |.str,cs,x,vs,h,hr=>bR hF _ _ _ (iF hm .str cs x vs h hr)
 |.elem,cs,x,vs,h,hr=>bR hF _ _ _ (iF hm .elem cs x vs h hr)
 |.prod a b,cs,x,vs,h,hr=>by
  obtain ⟨h1,h2⟩:=aW h
  have r1:=oh a _ _ _ h1 (SV.cX hr a.size)
  have r2:=oh b _ _ _ h2 (SV.cY hr a.size)
  refine ⟨?_,r1,r2⟩
  grind [List.take_append_drop,bK,OY]
 |.arr n t,cs,x,vs,h,hr=>by
  simp only [kE] at h
  split at h
  ·rename_i hl
   obtain ⟨h1,h2⟩:=sO t.d h
   refine ⟨by rw [SV.aN hr,hl],by grind,λi hi=> ?_⟩
   have:=h2 i (by simpa using hi)
   simp at this
   exact oh t _ _ _ this (SV.cX (SV.cY hr (i*t.size)) t.size)
  ·cases h
 |.list t,cs,x,vs,h,hr=>by
  simp only [kE] at h
  split at h
  ·obtain ⟨y,rfl,hy⟩:=oj h
   obtain ⟨v,rfl,hv⟩:=bY hr
   grind [Ya]
  ·cases h
end
theorem nx {ok:Nat->Bool} {hp:Hp}:∀ {t:Ty} {cs:List SV} {x:t.T},kE ok hp t cs=some x->cs.length=t.size
 |.bool,cs,x,h=>by rw [Np h];rfl
 |.u64,cs,x,h=>by rw [Ve h];rfl
 |.u8,cs,x,h=>by rw [af8 h];rfl
 |.int,cs,x,h=>by rw [Vg h];rfl
 |.str,cs,x,h=>by rw [Vf h];rfl
 |.elem,cs,x,h=>by rw [Nn h];rfl
 |.prod a b,cs,x,h=>by
  obtain ⟨h1,h2⟩:=aW h
  have l1:=nx h1
  have l2:=nx h2
  grind [Ty.size]
 |.arr n t,cs,x,h=>by
  simp only [kE] at h
  split at h
  ·assumption
  grind
 |.list t,cs,x,h=>by
  simp only [kE] at h
  split at h
  ·obtain ⟨y,rfl,_⟩:=oj h
   rfl
  grind
end Sx
end
section
namespace Sx
open Go
inductive Sh where
 |val (b:Bool) (t:Ty)
 |own (n:Nat)
 |ptr (n i off:Nat)
 |fn (f:FuncId) (ns:List Nat)
 |ifp (t:TypeId) (n:Nat)
 |ife (t:TypeId)
 |mix (a:Ty) (n:Nat) (b:Ty)
 |rK|fD|undef
def Sh.T:Sh->Type
 |.val _ t=>t.T
 |.mix a _ b=>a.T×(Unit×b.T)
 |.ife _=>Int
 |_=>Unit
inductive CSh where
 |row (t:Ty)
 |frz (t:Ty)
 |cells (l:List Sh)
 |gone
def ShT:List Sh->Type
 | []=>Unit
 |s::r=>s.T×ShT r
def CSh.T:CSh->Type
 |.row t=>List t.T
 |.frz t=>List t.T
 |.cells l=>ShT l
 |.gone=>Unit
def CSh.ep:CSh->Nat
 |.gone=>1
 |_=>0
def CSh.iO:CSh->Bool
 |.gone=>true
 |_=>false
def Gh:List (Nat×CSh)->Type
 | []=>Unit
 |c::r=>c.2.T×Gh r
def SlT:List (Nat×Sh)->Type
 | []=>Unit
 |c::r=>c.2.T×SlT r
abbrev Bd:=List (Nat×Option Nat)
def dE:Bd->Nat->Option (Option Nat)
 | [],_=>none
 |(m,o)::r,n=>cond (Nat.beq m n) (some o) (dE r n)
def SO (b:Bd) (n:Nat) (o:Option Nat):Bd:=match dE b n with
 |some _=>b
 |none=>(n,o)::b
def G2:List Nat->List SV->Bd->Bd
 |n::ns,.ptr c _ _ _::r,b=>G2 ns r (SO b n (some c))
 |_,_,b=>b
def aGp (n:Nat) (x:SV) (b:Bd):Bd:=match x with
 |.own c _=>SO b n (some c)
 |.emp=>SO b n none
 |_=>b
def SK:Sh->SV->Bd->Bd
 |.own n,.own c _,b=>SO b n (some c)
 |.own n,.emp,b=>SO b n none
 |.ptr n _ _,.ptr c _ _ _,b=>SO b n (some c)
 |.fn _ ns,.fn _ _ caps,b=>G2 ns caps b
 |.ifp _ n,.iface _ (.ptr c _ _ _),b=>SO b n (some c)
 |.mix t n _,.agg cs,b=>aGp n (cs.getD t.size .gu) b
 |_,_,b=>b
def Sh.size:Sh->Nat
 |.val _ t=>t.size
 |.mix a _ b=>a.size+1+b.size
 |_=>1
def oM:List Sh->List SV->Bd->Bd
 |s::r,cs,b=>oM r (cs.drop s.size) (SK s (cs.headD .gu) b)
 | [],_,b=>b
def oL (tm:List SV):List (Nat×Sh)->Bd->Bd
 |(i,s)::r,b=>oL tm r (SK s (tm.getD i .gu) b)
 | [],b=>b
def fy (hp:Hp):List (Nat×CSh)->Bd->Bd
 |(n,.cells l)::r,b=>fy hp r (match dE b n with
  |some (some c)=>match hp c with
   |some ⟨_,.cells vs⟩=>oM l vs b
   |_=>b
  |_=>b)
 |_::r,b=>fy hp r b
 | [],b=>b
def DF (bd:Bd) (hp:Hp) (n c e:Nat):Bool:=match dE bd n with
 |some (some c')=>Nat.beq c' c&&(match hp c with
  |some ch=>Nat.beq ch.ep e
  |none=>false)
 |_=>false
def Jz (bd:Bd) (n:Nat):Bool:=match dE bd n with
 |some none=>true
 |_=>false
def zS (bd:Bd) (hp:Hp):List Nat->List SV->Bool
 | [],[]=>true
 |n::ns,.ptr c e i off::r=>DF bd hp n c e&&Nat.beq i 0&&Nat.beq off 0&&zS bd hp ns r
 |_,_=>false
def II (b:Bool):Option Unit:=cond b (some ()) none
def lQ (bd:Bd) (hp:Hp):Sh->List SV->Bool
 |.own n,[.own c e]=>DF bd hp n c e
 |.own n,[.emp]=>Jz bd n
 |.ptr n i off,[.ptr c e i' off']=>DF bd hp n c e&&Nat.beq i i'&&Nat.beq off off'
 |.fn f ns,[.fn (.func f') [] caps]=>Nat.beq f f'&&zS bd hp ns caps
 |.ifp t n,[.iface t' (.ptr c e i off)]=>Nat.beq t t'&&(DF bd hp n c e&&(Nat.beq i 0&&Nat.beq off 0))
 |.rK,[.rK]=>true
 |.fD,[.fD]=>true
 |.undef,[.undef]=>true
 |_,_=>false
def aDP (t:TypeId):List SV->Option Int
 | [.iface t' (.agg [.int x])]=>cond (Nat.beq t t') (some x) none
 |_=>none
def sA (bd:Bd) (ok:Nat->Bool) (hp:Hp):(s:Sh)->List SV->Option s.T
 |.val _ t=>λcs=>kE ok hp t cs
 |.own n=>λcs=>II (lQ bd hp (.own n) cs)
 |.ptr n i off=>λcs=>II (lQ bd hp (.ptr n i off) cs)
 |.fn f ns=>λcs=>II (lQ bd hp (.fn f ns) cs)
 |.ifp t n=>λcs=>II (lQ bd hp (.ifp t n) cs)
 |.ife t=>λcs=>aDP t cs
 |.mix a n b=>λcs=>sF (kE ok hp a (cs.take a.size)) (sF (II (lQ bd hp (.own n) ((cs.drop a.size).take 1))) (kE ok hp b ((cs.drop a.size).drop 1)))
 |.rK=>λcs=>II (lQ bd hp .rK cs)
 |.fD=>λcs=>II (lQ bd hp .fD cs)
 |.undef=>λcs=>II (lQ bd hp .undef cs)
def oz:(s:Sh)->s.T->List SV
 |.val _ t,x=>unpack t x
 |.own n,_=> [.own n 0]
 |.ptr n i off,_=> [.ptr n 0 i off]
 |.fn f ns,_=> [.fn (.func f) [] (ns.map λn=>.ptr n 0 0 0)]
 |.ifp t n,_=> [.iface t (.ptr n 0 0 0)]
 |.ife t,x=> [.iface t (.agg [.int x])]
 |.mix a n b,x=>unpack a x.1++([.own n 0]++unpack b x.2.2)
 |.rK,_=> [.rK]
 |.fD,_=> [.fD]
 |.undef,_=> [.undef]
def Sh.agg:Sh->Bool
 |.val b _=>b
 |.mix .. =>true
 |_=>false
def Uh:Bool->SV->Option (List SV)
 |true,.agg l=>some l
 |true,_=>none
 |false,x=>some [x]
def Da (bd:Bd) (ok:Nat->Bool) (hp:Hp) (s:Sh) (x:SV):Option s.T:=
 match Uh s.agg x with
 |some l=>sA bd ok hp s l
 |none=>none
def s8 (s:Sh) (x:s.T):SV:=rG s.agg (oz s x)
def lD (bd:Bd) (ok:Nat->Bool) (hp:Hp):(l:List Sh)->List SV->Option (ShT l)
 | [],[]=>some ()
 | [],_::_=>none
 |s::r,cs=>sF (sA bd ok hp s (cs.take s.size)) (lD bd ok hp r (cs.drop s.size))
def lT:(l:List Sh)->ShT l->List SV
 | [],_=> []
 |s::r,x=>oz s x.1++lT r x.2
def uW (bd:Bd) (ok:Nat->Bool) (hp:Hp) (tm:List SV):(l:List (Nat×Sh))->Option (SlT l)
 | []=>some ()
 |c::r=>sF (Da bd ok hp c.2 (tm.getD c.1 .gu)) (uW bd ok hp tm r)
def ig:(l:List (Nat×Sh))->SlT l->List SV->List SV
 | [],_,tm=>tm
 |c::r,x,tm=>ig r x.2 (tm.set c.1 (s8 c.2 x.1))
def je (bd:Bd) (ok:Nat->Bool) (hp:Hp):(s:CSh)->Chunk->Option s.T
 |.row t,.row t' xs=>cd t t' xs
 |.row _,_=>none
 |.frz t,.frz t' xs=>cd t t' xs
 |.frz _,_=>none
 |.cells l,.cells vs=>lD bd ok hp l vs
 |.cells _,_=>none
 |.gone,_=>none
def J8:(s:CSh)->Option s.T
 |.gone=>some ()
 |_=>none
def QE:(s:CSh)->Option s.T
 |.row t=>cond (Nat.blt 0 t.size) (some ([]:List t.T)) none
 |_=>none
def cA:(s:CSh)->s.T->Chunk
 |.row t,xs=>.row t xs
 |.frz t,xs=>.frz t xs
 |.cells l,x=>.cells (lT l x)
 |.gone,_=>.row .u8 []
def kB (bd:Bd) (ok:Nat->Bool) (hp:Hp) (n:Nat) (s:CSh):Option s.T:=
 match dE bd n with
 |some (some c)=>match hp c with
  |some ch=>je bd ok hp s ch.body
  |none=>none
 |some none=>QE s
 |none=>J8 s
def fk (bd:Bd) (ok:Nat->Bool) (hp:Hp):(l:List (Nat×CSh))->Option (Gh l)
 | []=>some ()
 |c::r=>sF (kB bd ok hp c.1 c.2) (fk bd ok hp r)
def dO:(l:List (Nat×CSh))->Gh l->Hp
 | [],_=>λ_=>none
 |c::r,x=>λn=>cond (Nat.beq n c.1) (some ⟨c.2.ep,cA c.2 x.1⟩) (dO r x.2 n)
def aDH (c:Nat) (p:Nat×Option Nat):Bool:=match p.2 with
 |some o=>Nat.beq o c
 |none=>false
def tA (lists:Bool) (bd:Bd) (c:Nat):Bool:=lists&& !(bd.any (aDH c))
structure Shape where
 n:Nat
 awC:List (Nat×Sh)
 chunks:List (Nat×CSh)
 fixed:Nat
 lists:Bool:=true
abbrev Shape.T (s:Shape):Type:=SlT s.awC×Gh s.chunks
def Shape.inj (s:Shape) (x:s.T):St:=⟨ig s.awC x.1 (List.replicate s.n .gu),dO s.chunks x.2⟩
def Shape.bd (s:Shape) (st:St):Bd:=fy st.hp s.chunks (oL st.tm s.awC (((List.range s.fixed).filter λk=> !(s.chunks.any λc=>Nat.beq c.1 k&&c.2.iO)).map λk=>(k,some k)))
def distinct:List Nat->Bool
 | []=>true
 |x::r=> !(r.any λy=>Nat.beq x y)&&distinct r
def Shape.Lr (s:Shape) (st:St) (bd:Bd):Bool:=
 distinct (s.chunks.map (·.1))&&
 s.chunks.all (λc=>s.chunks.all λc'=>Nat.beq c.1 c'.1||(match dE bd c.1,dE bd c'.1 with
  |some (some o),some (some o')=> !Nat.beq o o'
  |_,_=>true))&&
 bd.all (λp=>s.chunks.any λc=>Nat.beq c.1 p.1)&&
 (List.range s.fixed).all λk=>(match dE bd k with
  |some (some c)=>Nat.beq c k&&(match st.hp k with
   |some ch=>Nat.beq ch.ep 0
   |none=>false)
  |some none=>false
  |none=>s.chunks.any λc=>Nat.beq c.1 k&&c.2.iO)
def Shape.prj (s:Shape) (st:St):Option s.T:=
 let bd:=s.bd st
 cond (s.Lr st bd&&Nat.beq st.tm.length s.n) (sF (uW bd (tA s.lists bd) st.hp st.tm s.awC) (fk bd (tA s.lists bd) st.hp s.chunks)) none
def Shape.on (s:Shape) (st:St) (k:s.T->Prop):Prop:=match s.prj st with
 |some x=>k x
 |none=>False
end Sx
end
section
namespace Sx
open Go
theorem ib {b:Bool} {x:Unit} (h:II b=some x):b=true:=by
 cases b
 ·cases h
 rfl
theorem fF {bd:Bd} {hp:Hp} {s:Sh} {cs:List SV} (h:lQ bd hp s cs=true):∃ y,cs= [y]:=by
 unfold lQ at h
 grind
theorem Qo {bd:Bd} {ok:Nat->Bool} {hp:Hp} {s:Sh} {cs:List SV} {x:s.T} (h:sA bd ok hp s cs=some x):(oz s x).length=cs.length:=by
 cases s<;>simp [sA] at h
 case val b t=>rw [nx h];exact gV t x
 case mix a n b=>
  obtain ⟨h1,h2⟩:=aW h
  grind [aW,nx,fF,ib,oz,bK,gV,bQ,cq,List.length_cons,List.length_nil]
 case ife t=>
  unfold aDP at h
  split at h
  ·rfl
  grind
 all_goals (obtain ⟨y,rfl⟩:=fF (ib h);rfl)
theorem mr {bd:Bd} {ok:Nat->Bool} {hp:Hp}:∀ {l:List Sh} {cs:List SV} {x:ShT l},lD bd ok hp l cs=some x->(lT l x).length=cs.length
 | [],[],_,_=>rfl
 | [],_::_,_,h=>by cases h
 |s::r,cs,x,h=>by
  obtain ⟨h1,h2⟩:=aW h
  have l1:=Qo h1
  have l2:=mr h2
  grind [lT]
theorem wP {bd:Bd} {ok:Nat->Bool} {hp:Hp} {s:CSh} {b:Chunk} {y:s.T} (h:je bd ok hp s b=some y):(cA s y).shape=b.shape:=by
 cases s<;>cases b<;>simp [je] at h<;>first|rfl|skip
 case row.row t t' xs=>
  obtain ⟨e,rfl⟩:=bi h
  subst e
  rfl
 case frz.frz t t' xs=>
  obtain ⟨e,rfl⟩:=bi h
  subst e
  rfl
 case cells.cells l vs=>
  simp [cA,Chunk.shape,mr h]
theorem dS {bd:Bd} {ok:Nat->Bool} {hp:Hp}:∀ {l:List (Nat×CSh)} {x:Gh l},fk bd ok hp l=some x->∀ {n:Nat} {ch:Ch},dO l x n=some ch->
 ∃ (s:CSh) (y:s.T),(n,s) ∈ l/\kB bd ok hp n s=some y/\ch=⟨s.ep,cA s y⟩
 | [],_,_,_,_,h=>by cases h
 |c::r,x,h,n,ch,hn=>by
  obtain ⟨h1,h2⟩:=aW h
  simp [dO] at hn
  cases hb:Nat.beq n c.1
  ·rw [hb] at hn
   obtain ⟨s,y,h3,h4⟩:=dS h2 hn
   grind
  grind [aY]
theorem s9:∀ {l:List (Nat×CSh)} {x:Gh l} {n:Nat},(∃ s,(n,s) ∈ l)->∃ ch,dO l x n=some ch
 | [],_,_,h=>by grind
 |c::r,x,n,h=>by
  simp [dO]
  cases hb:Nat.beq n c.1
  ·obtain ⟨s,h⟩:=h
   rcases List.mem_cons.1 h with h|h
   ·grind [Nat.beq_refl]
   ·exact s9 ⟨s,h⟩
  simp
theorem atX:∀ {bd:Bd} {n:Nat} {o:Option Nat},dE bd n=some o->∃ p ∈ bd,p.1=n
 :=by intro t;induction t<;>grind [dE,Nat.beq,aY]
def Ctx.named (R:Ctx) (F':Nat->Option Obj) (U':Gf) (bd:Bd) (hp:Hp):Ctx:=⟨F',U',λn=>match dE bd n with
 |some (some c)=>R.σ c
 |_=>none,hp⟩
section
variable {s:Shape} {R:Ctx} {st:St} {bd:Bd} {ok:Nat->Bool} {F':Nat->Option Obj} {U':Gf} {x:Gh s.chunks} (hok:s.Lr st bd=true) (hx:fk bd ok st.hp s.chunks=some x) (hR:R.hp=st.hp)
include hok hx
theorem SN {n:Nat} {o:Option Nat} (h:dE bd n=some o):∃ (cs:CSh) (y:cs.T),kB bd ok st.hp n cs=some y/\dO s.chunks x n=some ⟨0,cA cs y⟩:=by
 obtain ⟨p,hp,rfl⟩:=atX h
 unfold Shape.Lr at hok
 simp only [aw,fX,List.any_eq_true] at hok
 obtain ⟨c,hc,hcn⟩:=hok.1.2 p hp
 have:=aY hcn
 obtain ⟨ch,hch⟩:=s9 (x:=x) (n:=p.1) ⟨c.2,by rw [<-this];exact hc⟩
 obtain ⟨cs,y,h1,h2,h3⟩:=dS hx hch
 refine ⟨cs,y,h2,?_⟩
 rw [hch,h3]
 have:cs.ep=0:=by
  cases cs<;>try rfl
  grind [kB,je,QE]
 rw [this]
theorem QC {n c e:Nat} (h:DF bd st.hp n c e=true):∃ b b',st.hp c=some ⟨e,b⟩/\dO s.chunks x n=some ⟨0,b'⟩/\b'.shape=b.shape/\(R.named F' U' bd (dO s.chunks x)).σ n=R.σ c:=by
 unfold DF at h
 split at h
 ·rename_i c' hb
  rw [aw] at h
  have:=aY h.1
  subst this
  have h2:=h.2
  split at h2
  ·rename_i ch hch
   have he:=aY h2
   obtain ⟨cs,y,h3,h4⟩:=SN hok hx hb
   simp [kB,hb,hch] at h3
   exact ⟨ch.body,_,by rw [hch,<-he],h4,wP h3,by grind [Ctx.named]⟩
  grind
 grind
theorem Nq {n:Nat} {ad:Option Addr} (h:Jz bd n=true):(R.named F' U' bd (dO s.chunks x)).own n 0 (.slice ad 0 0):=by
 unfold Jz at h
 split at h
 ·rename_i hb
  obtain ⟨cs,y,h3,h4⟩:=SN hok hx hb
  simp [kB,hb] at h3
  cases cs<;>simp [QE] at h3<;>try rfl
  case row t=>
   cases hz:Nat.blt 0 t.size
   ·grind
   ·rw [hz] at h3
    cases h3
    refine ⟨_,h4,(by simp),λ_=>⟨_,h4,(by simp),λ_=> ?_⟩⟩
    refine ⟨rfl,(by simp),ad,0,rfl,Nat.le_refl _,?_⟩
    grind
 grind
include hR
theorem apS {n c e:Nat} {v:Value} (h:DF bd st.hp n c e=true) (hv:R.own c e v):(R.named F' U' bd (dO s.chunks x)).own n 0 v:=by
 obtain ⟨b,b',h1,h2,h3,h4⟩:=QC (R:=R) hok hx h
 obtain ⟨h5,h6,ad,cap,h7,h8,h9⟩:=Ctx.cK (b:=b) (by grind) (Ctx.cV (by rw [hR];omega) hv)
 refine ⟨_,h2,(by simp),λ_=>⟨_,h2,(by simp),λ_=> ?_⟩⟩
 rw [h4]
 grind
theorem aaP {n c e i off:Nat} {v:Value} (h:DF bd st.hp n c e=true) (hv:R.ptr c e i off v):(R.named F' U' bd (dO s.chunks x)).ptr n 0 i off v:=by
 obtain ⟨b,b',h1,h2,h3,h4⟩:=QC (R:=R) hok hx h
 obtain ⟨ch,g1,g2,g3⟩:=hv
 rw [hR,h1] at g1
 cases g1
 obtain ⟨L,g4,g5⟩:=g3 rfl
 refine ⟨_,h2,(by simp),λ_=>⟨L,by rw [h4];omega,?_⟩⟩
 grind
theorem afZ:∀ (ns:List Nat) (caps:List SV) (us:List Value),zS bd st.hp ns caps=true->SV.bz R caps us->SV.bz (R.named F' U' bd (dO s.chunks x)) (ns.map λn=>.ptr n 0 0 0) us
 | [],[],us,_,h=>h
 | [],_::_,_,h,_|n::ns,[],_,h,_=>by cases h
 |n::ns,y::r,us,h,hr=>by
  cases y<;>simp only [zS] at h<;>try grind
  case ptr c e i off=>
   simp only [aw] at h
   obtain ⟨⟨⟨h1,h2⟩,h3⟩,h4⟩:=h
   have e1:=aY h2
   have e2:=aY h3
   obtain ⟨v,us',rfl,hv,hr⟩:=hr
   exact ⟨v,us',rfl,by grind [SV.rel,aaP],afZ ns r us' h4 hr⟩
theorem Db {w:World} (hm:cz R w) (hF:∀ b o,R.F b=some o->F' b=some o) (hok':∀ c ch L,ok c=true->R.hp c=some ch->R.σ c=some L->F' L.block=w.heap[L.block]?) {sh:Sh} {cs:List SV} {y:sh.T} {us:List Value} (h:sA bd ok st.hp sh cs=some y) (hr:SV.bz R cs us):SV.bz (R.named F' U' bd (dO s.chunks x)) (oz sh y) us:=by
 cases sh<;>simp only [sA] at h
 case val b t=>
  rw [<-hR] at h
  exact fh t y us (oh hm hF hok' t cs y us h hr)
 case own n=>
  replace h:=ib h
  obtain ⟨z,rfl⟩:=fF h
  obtain ⟨v,rfl,hv⟩:=bY hr
  cases z<;>simp only [lQ,Bool.false_eq_true] at h
  case own c e=>
   simp only [SV.rel] at hv
   exact bc (by simp only [SV.rel];exact ⟨hv.1,apS hok hx hR h hv.2⟩)
  case emp=>
   simp only [SV.rel] at hv
   obtain ⟨ad,rfl⟩:=hv
   exact bc (by simp only [SV.rel];exact ⟨rfl,Nq hok hx h⟩)
 case mix a n b=>
  obtain ⟨h1,h2⟩:=aW h
  obtain ⟨h3,h4⟩:=aW h2
  have r1:=SV.cX hr a.size
  have r2:=SV.cY hr a.size
  have r3:=SV.cX r2 1
  have r4:=SV.cY r2 1
  have ho:=ib h3
  obtain ⟨z,hz⟩:=fF ho
  rw [hz] at ho r3
  obtain ⟨v,hv1,hv⟩:=bY r3
  rw [<-hR] at h1 h4
  have q1:SV.bz (R.named F' U' bd (dO s.chunks x)) (unpack a y.1) (us.take a.size):=fh a y.1 _ (oh hm hF hok' a _ y.1 _ h1 r1)
  have q4:SV.bz (R.named F' U' bd (dO s.chunks x)) (unpack b y.2.2) ((us.drop a.size).drop 1):=fh b y.2.2 _ (oh hm hF hok' b _ y.2.2 _ h4 r4)
  have q3:SV.bz (R.named F' U' bd (dO s.chunks x)) [.own n 0] ((us.drop a.size).take 1):=by
   rw [hv1]
   cases z<;>simp only [lQ,Bool.false_eq_true] at ho
   case own c e=>
    grind [SV.rel,bc,apS]
   case emp=>
    simp only [SV.rel] at hv
    obtain ⟨ad,rfl⟩:=hv
    exact bc (by simp only [SV.rel];exact ⟨rfl,Nq hok hx ho⟩)
  have:=SV.bA q1 (SV.bA q3 q4)
  rw [List.take_append_drop,List.take_append_drop] at this
  exact this
 case ptr n i off=>
  replace h:=ib h
  obtain ⟨z,rfl⟩:=fF h
  obtain ⟨v,rfl,hv⟩:=bY hr
  cases z<;>simp only [lQ,Bool.false_eq_true,aw] at h
  case ptr c e i' off'=>
   obtain ⟨⟨h1,h2⟩,h3⟩:=h
   have e1:=aY h2
   have e2:=aY h3
   subst e1 e2
   simp only [SV.rel] at hv
   exact bc (by simp only [SV.rel];exact ⟨hv.1,aaP hok hx hR h1 hv.2⟩)
 case fn f ns=>
  replace h:=ib h
  obtain ⟨z,rfl⟩:=fF h
  obtain ⟨v,rfl,hv⟩:=bY hr
  cases z<;>try (simp only [lQ,Bool.false_eq_true] at h;done)
  case fn g first caps=>
   cases g with
   |func f'=>
    cases first with
    |nil=>
     simp only [lQ,aw] at h
     have e1:=aY h.1
     subst e1
     simp only [SV.rel] at hv
     obtain ⟨l1,l2,rfl,h3,h4⟩:=hv
     exact bc (by simp only [SV.rel];exact ⟨l1,l2,rfl,h3,afZ hok hx hR ns _ l2 h.2 h4⟩)
    |cons a b=>simp [lQ] at h
   |_=>simp [lQ] at h
 case ife t=>
  unfold aDP at h
  split at h
  ·rename_i t' z
   cases hb:Nat.beq t t'
   ·rw [hb] at h;cases h
   ·rw [hb] at h
    cases h
    rw [aY hb]
    obtain ⟨v,rfl,hv⟩:=bY hr
    exact bc (adg hv)
  ·cases h
 case ifp t n=>
  replace h:=ib h
  obtain ⟨z,rfl⟩:=fF h
  obtain ⟨v,rfl,hv⟩:=bY hr
  cases z<;>try (simp only [lQ,Bool.false_eq_true] at h;done)
  case iface t' q=>
   cases q<;>try (simp only [lQ,Bool.false_eq_true] at h;done)
   case ptr c e i off=>
    simp only [lQ,aw] at h
    obtain ⟨h0,h1,h2,h3⟩:=h
    have e0:=aY h0
    have e1:=aY h2
    have e2:=aY h3
    subst e0 e1 e2
    simp only [SV.rel] at hv
    obtain ⟨y,rfl,hy⟩:=hv
    exact bc (by simp only [SV.rel];exact ⟨y,rfl,hy.1,aaP hok hx hR h1 hy.2⟩)
 all_goals (
  replace h:=ib h
  obtain ⟨z,rfl⟩:=fF h
  obtain ⟨v,rfl,hv⟩:=bY hr
  cases z<;>simp only [lQ,Bool.false_eq_true] at h
  simp only [SV.rel] at hv
  exact bc (by simp only [SV.rel];exact hv))
theorem Fb {w:World} (hm:cz R w) (hF:∀ b o,R.F b=some o->F' b=some o) (hok':∀ c ch L,ok c=true->R.hp c=some ch->R.σ c=some L->F' L.block=w.heap[L.block]?):∀ {l:List Sh} {cs:List SV} {y:ShT l} {us:List Value},lD bd ok st.hp l cs=some y->SV.bz R cs us->SV.bz (R.named F' U' bd (dO s.chunks x)) (lT l y) us
 | [],[],_,_,_,hr=>hr
 | [],_::_,_,_,h,_=>by cases h
 |sh::r,cs,y,us,h,hr=>by
  obtain ⟨h1,h2⟩:=aW h
  have r1:=Db (U':=U') hok hx hR hm hF hok' h1 (SV.cX hr sh.size)
  have r2:=Fb hm hF hok' h2 (SV.cY hr sh.size)
  have:=SV.bA r1 r2
  rwa [List.take_append_drop] at this
theorem aaR {w:World} (hm:cz R w) (hF:∀ b o,R.F b=some o->F' b=some o) (hok':∀ c ch L,ok c=true->R.hp c=some ch->R.σ c=some L->F' L.block=w.heap[L.block]?) {sh:Sh} {z:SV} {y:sh.T} {v:Value} (h:Da bd ok st.hp sh z=some y) (hr:SV.rel R z v):SV.rel (R.named F' U' bd (dO s.chunks x)) (s8 sh y) v:=by
 unfold Da at h
 unfold s8
 cases ha:sh.agg<;>rw [ha] at h
 ·have h1:=Db (U':=U') hok hx hR hm hF hok' h (bc hr)
  simp [rG]
  cases hc:oz sh y with
  |nil=>grind [SV.bz]
  |cons u l=>
   grind [SV.bz]
 ·cases z<;>simp [Uh] at h<;>try rfl
  case agg l=>
   obtain ⟨vs,rfl,h1,h2⟩:=hr
   grind [Bf,Db]
theorem kA {w:World} (hm:cz R w) (hF:∀ b o,R.F b=some o->F' b=some o) (hok':∀ c ch L,ok c=true->R.hp c=some ch->R.σ c=some L->F' L.block=w.heap[L.block]?) {tmps:List Value} (ht:SV.bz R st.tm tmps):∀ {l:List (Nat×Sh)} {y:SlT l} {tm:List SV},uW bd ok st.hp st.tm l=some y->
 SV.bz (R.named F' U' bd (dO s.chunks x)) tm tmps->SV.bz (R.named F' U' bd (dO s.chunks x)) (ig l y tm) tmps
 | [],_,_,_,h=>h
 |c::r,y,tm,h,htm=>by
  obtain ⟨h1,h2⟩:=aW h
  simp [ig]
  refine kA hm hF hok' ht h2 ?_
  by_cases hc:c.1<st.tm.length
  ·have hl:=SV.aN ht
   have hc':c.1<tmps.length:=by omega
   have hv:=SV.ni ht c.1 hc hc'
   grind [m4,SV.AS,aaR,List.set_getElem_self]
  ·have:tm.length=st.tm.length:=by rw [<-SV.aN htm,<-SV.aN ht]
   grind [List.set_eq_of_length_le]
end
end Sx
end
section
namespace Sx
open Go
theorem Fa {bd:Bd} {ok:Nat->Bool} {hp:Hp} {s:CSh} {b:Chunk} {y:s.T} (h:je bd ok hp s b=some y):(cA s y).mut=b.mut:=by
 cases s<;>cases b<;>simp [je] at h<;>first|rfl|rfl
theorem oO:∀ {bd:Bd} {n:Nat} {o:Option Nat},dE bd n=some o->(n,o) ∈ bd
 :=by intro t;induction t<;>grind [dE,Nat.beq,List.mem_cons_of_mem,aY]
theorem N3 {l:Bool} {bd:Bd} {n c:Nat} (h:dE bd n=some (some c)):tA l bd c=false:=by
 have hm:=oO h
 unfold tA
 have:bd.any (aDH c)=true:=List.any_eq_true.2 ⟨_,hm,by simp [aDH]⟩
 grind
open Classical in
noncomputable def Ctx.frozen (R:Ctx) (w:World) (ok:Nat->Bool):Nat->Option Obj:=λb=>
 if ∃ c ch L,ok c=true/\R.hp c=some ch/\R.σ c=some L/\L.block=b then w.heap[b]? else R.F b
theorem RE {R:Ctx} {w:World} (hm:cz R w) (ok:Nat->Bool):∀ b o,R.F b=some o->R.frozen w ok b=some o:=λb o h=>by
 unfold Ctx.frozen
 split
 ·exact hm.F b o h
 omega
theorem acB {R:Ctx} {w:World} (hm:cz R w) (ok:Nat->Bool):∀ b o,R.frozen w ok b=some o->w.heap[b]? =some o:=λb o h=>by
 unfold Ctx.frozen at h
 split at h
 ·omega
 ·exact hm.F b o h
theorem WG {R:Ctx} (w:World) (ok:Nat->Bool):∀ c ch L,ok c=true->R.hp c=some ch->R.σ c=some L->R.frozen w ok L.block=w.heap[L.block]? :=λc ch L h1 h2 h3=>by
 unfold Ctx.frozen
 rw [if_pos (by grind)]
theorem dD {R:Ctx} {w:World} (hm:cz R w) {c:Nat} {ch:Ch} {L:Loc} (hc:R.hp c=some ch) (hσ:R.σ c=some L):
 (ch.body.mut=true->R.F L.block=none/\R.U L.block=none)/\(ch.body.mut=false->∃ o,R.F L.block=some o):=by
 have h:=hm.ch c ch hc
 obtain ⟨ep,body⟩:=ch
 cases body with
 |row t xs=>
  simp [eW] at h
  exact ⟨(by grind),λe=>(by cases e)⟩
 |frz t xs=>
  simp [eW] at h
  exact ⟨λe=>(by cases e),(by grind)⟩
 |cells vs=>
  obtain ⟨L',h0,h1,h2,_⟩:=h
  rw [hσ] at h0
  cases h0
  exact ⟨(by grind),λe=>(by cases e)⟩
theorem ayf {R:Ctx} {w:World} (hm:cz R w) (ok:Nat->Bool):∀ b o,R.frozen w ok b=some o->R.U b=none:=λb o h=>by
 unfold Ctx.frozen at h
 split at h
 ·rename_i hq
  obtain ⟨c,ch,L,h1,h2,h3,rfl⟩:=hq
  obtain ⟨k1,k2⟩:=dD hm h2 h3
  cases hmu:ch.body.mut
  ·obtain ⟨o',ho⟩:=k2 hmu
   exact hm.FU _ o' ho
  grind
 ·exact hm.FU b o h
theorem al5 {R:Ctx} {w:World} (hm:cz R w) {ok:Nat->Bool} {c:Nat} {ch:Ch} {L:Loc} (hc:R.hp c=some ch) (hσ:R.σ c=some L) (hmu:ch.body.mut=true) (hn:ok c=false):R.frozen w ok L.block=none:=by
 unfold Ctx.frozen
 split
 ·rename_i hq
  obtain ⟨c',ch',L',h1,h2,h3,h4⟩:=hq
  cases hm':ch'.body.mut
  ·obtain ⟨o',ho⟩:=(dD hm h2 h3).2 hm'
   grind [dD]
  ·have:=hm.apart c' c ch' ch L' L h2 hc hm' hmu h3 hσ h4
   grind
 grind [dD]
section
variable {s:Shape} {R:Ctx} {st:St} {bd:Bd} {x:Gh s.chunks} (hok:s.Lr st bd=true) (hx:fk bd (tA s.lists bd) st.hp s.chunks=some x) (hR:R.hp=st.hp)
 {w:World} (hm:cz R w) {F':Nat->Option Obj} {U':Gf} (hF:∀ b o,R.F b=some o->F' b=some o)
 (hok':∀ c ch L,tA s.lists bd c=true->R.hp c=some ch->R.σ c=some L->F' L.block=w.heap[L.block]?)
 (hmut:∀ n c ch L,dE bd n=some (some c)->R.hp c=some ch->ch.body.mut=true->R.σ c=some L->F' L.block=none/\U' L.block=none)
include hok hx hR hm hF hok' hmut
theorem as5 {n c:Nat} {cs:CSh} {y:cs.T} {ch:Ch} (hb:dE bd n=some (some c)) (hc:R.hp c=some ch) (h:je bd (tA s.lists bd) st.hp cs ch.body=some y):
 eW (R.named F' U' bd (dO s.chunks x)) w n ⟨cs.ep,cA cs y⟩:=by
 have h0:=hm.ch c ch hc
 have hσ:(R.named F' U' bd (dO s.chunks x)).σ n=R.σ c:=by grind [Ctx.named]
 obtain ⟨ep,body⟩:=ch
 cases cs<;>cases body<;>simp at h<;>try (cases h)
 case row.row t t' xs=>
  obtain ⟨e,rfl⟩:=bi h
  subst e
  simp only [eW] at h0⊢
  rw [hσ]
  refine ⟨h0.1,h0.2.1,?_⟩
  cases hL:R.σ c with
  |none=>grind
  |some L=>
   have:=h0.2.2
   rw [hL] at this
   obtain ⟨c1,c2,arr,E,c3,c4,c5,c6⟩:=this
   exact ⟨(hmut n c _ L hb hc rfl hL).1,(hmut n c _ L hb hc rfl hL).2,arr,E,c3,c4,c5,λi hi=>bR hF _ _ _ (c6 i hi)⟩
 case frz.frz t t' xs=>
  obtain ⟨e,rfl⟩:=bi h
  subst e
  simp only [eW] at h0⊢
  rw [hσ]
  refine ⟨h0.1,h0.2.1,?_⟩
  cases hL:R.σ c with
  |none=>grind
  |some L=>
   have:=h0.2.2
   rw [hL] at this
   obtain ⟨arr,E,fz,c3,c4,c5,c6⟩:=this
   exact ⟨arr,E,fz,hF _ _ c3,c4,c5,λi hi=>bR hF _ _ _ (c6 i hi)⟩
 case cells.cells l vs=>
  obtain ⟨L,h1,h2,h3,arr,E,h4,h5,h6,h7,h8⟩:=h0
  exact ⟨L,by grind,(hmut n c _ L hb hc rfl h1).1,(hmut n c _ L hb hc rfl h1).2,arr,E,h4,h5,by rw [mr h];exact h6,Fb hok hx hR hm hF hok' h h7,h8⟩
theorem GD (Ry:∀ b o,F' b=some o->w.heap[b]? =some o) (heapU:∀ b o,U' b=some o->w.heap[b]? =some o) (hFU:∀ b o,F' b=some o->U' b=none) (henv:MI U'.env w):cz (R.named F' U' bd (dO s.chunks x)) w:=by
 refine ⟨Ry,heapU,λn ch hn=> ?_,λn n' ch ch' L L' h1 h2 m1 m2 s1 s2 hbl=> ?_,hFU,henv⟩
 ·obtain ⟨cs,y,hmem,hp,rfl⟩:=dS hx (hn:dO s.chunks x n=some ch)
  unfold kB at hp
  split at hp
  ·grind [as5]
  ·rename_i hb
   cases cs<;>simp only [QE] at hp<;>try (cases hp;done)
   case row t=>
    cases hz:Nat.blt 0 t.size
    ·rw [hz] at hp;cases hp
    ·rw [hz] at hp
     cases hp
     simp_all [dO,Ctx.named,eW,cA,dI,trivial]
  ·rename_i hb
   cases cs<;>simp only [J8] at hp<;>try (cases hp;done)
   have hσ:(R.named F' U' bd (dO s.chunks x)).σ n=none:=by simp only [Ctx.named,hb]
   simp only [eW,cA]
   rw [hσ]
   exact ⟨by decide,by simp,trivial⟩
 ·have key:∀ (n:Nat) (ch:Ch) (L:Loc),(R.named F' U' bd (dO s.chunks x)).hp n=some ch->ch.body.mut=true->(R.named F' U' bd (dO s.chunks x)).σ n=some L->
   ∃ c ch₀ cs,(n,cs) ∈ s.chunks/\dE bd n=some (some c)/\R.hp c=some ch₀/\ch₀.body.mut=true/\R.σ c=some L:=λn ch L h m hs=>by
   obtain ⟨cs,y,hmem,hp,rfl⟩:=dS hx (h:dO s.chunks x n=some ch)
   grind [kB,Ctx.named,Fa]
  obtain ⟨c,c₀,cs,a1,a2,a3,a4,a5⟩:=key n ch L h1 m1 s1
  obtain ⟨c',c₀',cs',b1,b2,b3,b4,b5⟩:=key n' ch' L' h2 m2 s2
  have hcc:=hm.apart c c' c₀ c₀' L L' a3 b3 a4 b4 a5 b5 hbl
  subst hcc
  unfold Shape.Lr at hok
  simp only [aw,fX] at hok
  have h3:=hok.1.1.2 _ a1 _ b1
  simp_all
end
def Small (R:Ctx) (k:Nat):Prop:=∀ c ch,R.hp c=some ch->c<k/\ch.ep=0
theorem Shape.aG4 {s:Shape} {R₀ R:Ctx} {st:St} {a:Act} {w:World} {x:s.T} (h0:Small R₀ s.fixed) (hx:R₀.Ext R) (h:iT R st a w) (hp:s.prj st=some x):
 ∃ R',R₀.Ext R'/\iT R' (s.inj x) a w:=by
 unfold Shape.prj at hp
 dsimp only at hp
 cases hb:s.Lr st (s.bd st)&&Nat.beq st.tm.length s.n
 ·rw [hb] at hp;cases hp
 ·rw [hb] at hp
  rw [aw] at hb
  obtain ⟨h1,h2⟩:=aW hp
  have hlen:=aY hb.2
  refine ⟨R.named (R.frozen w (tA s.lists (s.bd st))) R.U (s.bd st) (dO s.chunks x.2),⟨λb o h'=>RE h.mem _ b o (hx.F b o h'),hx.U,λc ch hc=> ?_⟩,rfl,GD hb.1 h2 h.hp h.mem (RE h.mem _) (WG w _) (λn c ch L k1 k2 k3 k4=>⟨al5 h.mem k2 k4 k3 (N3 k1),((dD h.mem k2 k4).1 k3).2⟩) (acB h.mem _) h.mem.U (ayf h.mem _) h.mem.env,?_,h.defers⟩
  ·obtain ⟨hlt,hep⟩:=h0 c ch hc
   have hok:=hb.1
   unfold Shape.Lr at hok
   simp at hok
   have h3:=hok.2 c (by simpa using hlt)
   obtain ⟨ch1,g1,g2,g3⟩:=hx.ch c ch hc
   split at h3
   ·rename_i c' hbd
    have h4:=(aw _ _▸h3:_/\_)
    have:=aY h4.1
    subst this
    have hnow:DF (s.bd st) st.hp c' c' 0=true:=by
     grind [DF]
    obtain ⟨b,b',k1,k2,k3,k4⟩:=QC (R:=R) hb.1 h2 hnow
    rw [h.hp,k1] at g1
    cases g1
    exact ⟨_,k2,g2,λhe=>⟨by grind,k4.trans (g3 he).2⟩⟩
   ·cases h3
   ·rename_i hbd
    obtain ⟨q,hq,hq'⟩:=List.any_eq_true.1 h3
    rw [aw] at hq'
    have e1:=aY hq'.1
    obtain ⟨ch2,hch2⟩:=s9 (x:=x.2) (n:=c) ⟨q.2,by rw [<-e1];exact hq⟩
    obtain ⟨cs,y,k1,k2,k3⟩:=dS h2 hch2
    have hg:cs=.gone:=by
     grind [kB,J8]
    subst hg
    refine ⟨ch2,hch2,?_,λhe=> ?_⟩
    ·grind
    ·rw [k3,hep] at he;cases he
  ·refine kA hb.1 h2 h.hp h.mem (RE h.mem _) (WG w _) h.tm h1 (SV.pC ?_ λi hi hi'=> ?_)
   ·rw [fW,<-hlen]
    exact SV.aN h.tm
   ·simp [SV.rel]
end Sx
end
section
namespace Sx
open Go
def asu (id:Nat):SE->SE
 |.exit j=>cond (Nat.beq j id) .normal (.exit j)
 |e=>e
theorem Shape.ym {s:Shape} {R₀ R:Ctx} {st:St} {a:Act} {w:World} {k:s.T->Prop} (h0:Small R₀ s.fixed) (hx:R₀.Ext R) (h:iT R st a w) (hp:s.on st k):
 ∃ x R',k x/\R₀.Ext R'/\iT R' (s.inj x) a w:=by
 unfold Shape.on at hp
 split at hp
 ·rename_i x hq
  obtain ⟨R',h1,h2⟩:=Shape.aG4 h0 hx h hq
  exact ⟨x,R',hp,h1,h2⟩
 ·exact hp.elim
section
variable {P:Program} {te:TE} {Φ:Env} (hte:kq P te) (hΦ:oa P Φ) (hany:Gi P te Φ)
include hte hΦ hany
end
def ah0:List (Nat×Code)->Nat->Code
 | [],_=>.skip
 |(i,c)::r,id=>cond (Nat.beq i id) c (ah0 r id)
def ahZ (c:Code) (id:Nat):Code:=ah0 (blocks c) id
def Jl (c:Code) (id:Nat):Code:=match ahZ c id with
 |.loop b=>b
 |c=>c
def VO (c:Code) (id:Nat):Bool:=match ahZ c id with
 |.loop _=>true
 |_=>false
theorem abH {c:Code} {id:Nat} (h:VO c id=true):ahZ c id=.loop (Jl c id):=by
 unfold VO at h
 unfold Jl
 split at h
 ·rename_i b hb
  rw [hb]
 ·cases h
theorem OH:∀ {l:List (Nat×Code)},distinct (l.map (·.1))=true->∀ p ∈ l,ah0 l p.1=p.2
 | [],_,p,hp=>by cases hp
 |q::r,h,p,hp=>by
  simp only [List.map_cons,distinct,aw,Bool.not_eq_true'] at h
  simp only [ah0]
  rcases List.mem_cons.1 hp with he|he
  ·subst he
   rw [Nat.beq_refl];rfl
  ·have:Nat.beq q.1 p.1=false:=by
    cases hq:Nat.beq q.1 p.1
    ·rfl
    ·have:=h.1
     rw [List.any_eq_false] at this
     exact absurd hq (this p.1 (List.mem_map.2 ⟨p,he,rfl⟩))
   rw [this]
   exact OH h.2 p he
def Q0 (id:Nat) (l:St->(SE->St->Prop)->Prop) (Λ:Lam):Lam:=λj=>cond (Nat.beq j id) (some l) (Λ j)
def fR:Lam:=λ_=>none
theorem Bl {P:Program} {R₀:Ctx} {c:Code}:rJ P R₀ fR c:=λ_ _ _ h=>by cases h
theorem NJ {P:Program} {R₀:Ctx} {c:Code} (hd:distinct ((blocks c).map (·.1))=true) {id:Nat} {l:St->(SE->St->Prop)->Prop} {Λ:Lam} (hl:VO c id=true) (h:Aj P R₀ (.block id (.loop (Jl c id))) l) (hΛ:rJ P R₀ Λ c):
 rJ P R₀ (Q0 id l Λ) c:=λp hp l' hl'=>by
 unfold Q0 at hl'
 cases hb:Nat.beq p.1 id
 ·rw [hb] at hl';exact hΛ p hp l' hl'
 ·rw [hb] at hl'
  cases hl'
  have e:=aY hb
  have:=OH hd p hp
  rw [<-this,e]
  have h2:=abH hl
  unfold ahZ at h2
  rw [h2]
  exact h
end Sx
end
section
namespace Sx
open Go
abbrev Nm:=Nat->Nat×Nat
def yV (ν:Nm):(s:Sh)->s.T->List SV
 |.val _ t,x=>unpack t x
 |.own n,_=> [.own (ν n).1 (ν n).2]
 |.ptr n i off,_=> [.ptr (ν n).1 (ν n).2 i off]
 |.fn f ns,_=> [.fn (.func f) [] (ns.map λn=>.ptr (ν n).1 (ν n).2 0 0)]
 |.ifp t n,_=> [.iface t (.ptr (ν n).1 (ν n).2 0 0)]
 |.ife t,x=> [.iface t (.agg [.int x])]
 |.mix a n b,x=>unpack a x.1++([.own (ν n).1 (ν n).2]++unpack b x.2.2)
 |.rK,_=> [.rK]
 |.fD,_=> [.fD]
 |.undef,_=> [.undef]
def Rg (ν:Nm) (s:Sh) (x:s.T):SV:=rG s.agg (yV ν s x)
def oA (ν:Nm):(l:List Sh)->ShT l->List SV
 | [],_=> []
 |s::r,x=>yV ν s x.1++oA ν r x.2
def gL (ν:Nm):(s:CSh)->s.T->Chunk
 |.row t,xs=>.row t xs
 |.frz t,xs=>.frz t xs
 |.cells l,x=>.cells (oA ν l x)
 |.gone,_=>.row .u8 []
structure aL where
 rs:List Sh
 chunks:List (Nat×CSh)
 pan:Bool
def indexed:Nat->List Sh->List (Nat×Sh)
 |_,[]=> []
 |i,s::r=>(i,s)::indexed (i+1) r
def aL.shape (o:aL) (fixed:Nat):Shape:=⟨o.rs.length,indexed 0 o.rs,o.chunks,fixed,true⟩
def ape (n:Nat) (v:SV):List SV:=cond (Nat.beq n 1) [v] (match v with
 |.tup l=>l
 |_=>List.replicate (n+1) .gu)
structure af where
 as:List Sh
 chunks:List (Nat×CSh)
 bI:Bool
 fixed:Nat
 mod:Bool
def af.inp (S:af):Shape:=⟨S.as.length,indexed 0 S.as,S.chunks,0,S.bI⟩
abbrev af.T (S:af):Type:=S.inp.T
abbrev af.Y (S:af):Type:=Sigma λo:aL=>(o.shape S.fixed).T
def Zq (hp:Hp) (c:Nat):Nat:=match hp c with
 |some ch=>ch.ep
 |none=>0
def nameOf (bd:Bd) (n:Nat):Nat:=match dE bd n with
 |some (some c)=>c
 |_=>0
def af.nm (S:af) (bd:Bd) (hp:Hp) (base:Nat):Nm:=λn=>cond (Nat.blt n S.fixed) (nameOf bd n,Zq hp (nameOf bd n)) (base+(n-S.fixed),0)
def ks (ν:Nm):(l:List (Nat×CSh))->Gh l->List (Nat×Ch)
 | [],_=> []
 |c::r,x=>((ν c.1).1,⟨(ν c.1).2,gL ν c.2 x.1⟩)::ks ν r x.2
def dM (bd:Bd) (hp:Hp) (fixed:Nat):List (Nat×CSh)->List (Nat×Ch)
 | []=> []
 |c::r=>cond (Nat.blt c.1 fixed) (dM bd hp fixed r) (match dE bd c.1 with
  |some (some o)=>(o,⟨Zq hp o+1,.row .u8 []⟩)::dM bd hp fixed r
  |_=>dM bd hp fixed r)
def Ty.ct:Ty->Bool
 |.list _=>true
 |.prod a b=>a.ct||b.ct
 |.arr _ t=>t.ct
 |_=>false
def Sh.ct:Sh->Bool
 |.val _ t=>t.ct
 |.mix a _ b=>a.ct||b.ct
 |_=>false
def CSh.ct:CSh->Bool
 |.row t=>t.ct
 |.frz t=>t.ct
 |.cells l=>l.any Sh.ct
 |.gone=>false
def CSh.VP:CSh->Bool
 |.frz _=>true
 |_=>false
def af.m7 (S:af) (bd:Bd) (hp:Hp) (base:Nat) (o:aL):Bool:=
 (!S.bI|| !(o.rs.any Sh.ct||o.chunks.any λc=>c.2.ct||(c.2.VP&& !Nat.blt c.1 S.fixed)))&&
 ((List.range S.fixed).all (λk=>(match dE bd k with
   |some (some _)=>true
   |_=>false)&&o.chunks.any λc=>Nat.beq c.1 k)&&
 ((o.chunks.all λc=>S.chunks.all λc'=> !Nat.beq c.1 c'.1|| !Nat.blt c.1 S.fixed||(c.2.VP==c'.2.VP))&&
 o.chunks.all λc=> !c.2.iO&&(Nat.blt c.1 S.fixed||(Nat.blt (c.1-S.fixed) 64&&(hp (base+(c.1-S.fixed))).isNone))))
def af.emit (S:af) (bd:Bd) (d:Nat) (hp:Hp) (o:aL) (y:(o.shape S.fixed).T):OT Out:=
 let base:=fresh hp d
 let ν:=S.nm bd hp base
 let v:=oneOf ((indexedN ν o.rs) y.1)
 let u:=dM bd hp S.fixed S.chunks++ks ν o.chunks y.2
 .guard (S.m7 bd hp base o) (.ok (cond o.pan (.pan v u) (.ret ⟨v,u⟩)))
where
 indexedN (ν:Nm) (rs:List Sh):SlT (indexed 0 rs)->List SV:=go ν 0 rs
 go (ν:Nm):(i:Nat)->(rs:List Sh)->SlT (indexed i rs)->List SV
  |_,[],_=> []
  |i,s::r,y=>Rg ν s y.1::go ν (i+1) r y.2
def af.az (S:af) (pre:S.T->Bool) (F:S.T->OT S.Y):bx:=⟨S.mod,λd args hp=>
 match S.inp.prj ⟨args,hp⟩ with
 |none=>.fail
 |some x=>.guard (pre x) ((F x).bind λoy=>S.emit (S.inp.bd ⟨args,hp⟩) d hp oy.1 oy.2)⟩
def aL.is {fixed:Nat} (o:aL) (y:(o.shape fixed).T) (pan:Bool) (v:SV) (hp:Hp):Prop:=
 o.pan=pan/\(o.shape fixed).prj ⟨ape o.rs.length v,hp⟩=some y
end Sx
end
section
namespace Sx
open Go
def Ctx.B8 (R:Ctx) (bd:Bd) (b:Nat):Prop:=∃ n c ch L,dE bd n=some (some c)/\R.hp c=some ch/\ch.body.mut=true/\R.σ c=some L/\L.block=b
open Classical in
noncomputable def Ctx.Bt (R:Ctx) (bd:Bd) (bI:Bool) (w:World):Nat->Option Obj:=λb=>
 if R.B8 bd b then none else if bI=true then w.heap[b]? else R.F b
open Classical in
noncomputable def Ctx.GP (R:Ctx) (bd:Bd) (bI:Bool) (w:World):Gf:=⟨λb=>
 if R.B8 bd b\/bI=true\/(∃ o,R.F b=some o) then none else w.heap[b]?,R.U.env,[]⟩
section
variable {R:Ctx} {w:World} (hm:cz R w) {bd:Bd} {bI:Bool}
include hm
theorem Ex {b:Nat} (h:R.B8 bd b):R.F b=none/\R.U b=none:=by
 obtain ⟨n,c,ch,L,h1,h2,h3,h4,rfl⟩:=h
 exact (dD hm h2 h4).1 h3
theorem JK:∀ b o,R.F b=some o->R.Bt bd bI w b=some o:=λb o h=>by
 unfold Ctx.Bt
 split
 ·rename_i hb
  rw [(Ex hm hb).1] at h
  cases h
 ·split
  ·exact hm.F b o h
  ·exact h
theorem JJ:∀ b o,R.Bt bd bI w b=some o->w.heap[b]? =some o:=λb o h=>by
 unfold Ctx.Bt at h
 split at h
 ·cases h
 ·split at h
  ·exact h
  ·exact hm.F b o h
theorem DL:∀ c ch L,tA bI bd c=true->R.hp c=some ch->R.σ c=some L->R.Bt bd bI w L.block=w.heap[L.block]? :=λc ch L h1 h2 h3=>by
 have hb:bI=true:=by
  unfold tA at h1
  rw [aw] at h1
  exact h1.1
 unfold Ctx.Bt
 split
 ·rename_i hq
  obtain ⟨n,c',ch',L',k1,k2,k3,k4,k5⟩:=hq
  cases hmu:ch.body.mut
  ·obtain ⟨o,ho⟩:=(dD hm h2 h3).2 hmu
   rw [<-k5,((dD hm k2 k4).1 k3).1] at ho
   cases ho
  ·have:=hm.apart c' c ch' ch L' L k2 h2 k3 hmu k4 h3 k5
   rw [this] at k1
   rw [N3 k1] at h1
   cases h1
 ·first|rfl|rw [if_pos hb]
omit hm in
theorem JI:∀ b o,R.GP bd bI w b=some o->w.heap[b]? =some o:=λb o h=>by
 unfold Ctx.GP at h
 dsimp only at h
 split at h
 ·cases h
 ·exact h
omit hm in
theorem aq0:∀ b o,R.Bt bd bI w b=some o->R.GP bd bI w b=none:=λb o h=>by
 unfold Ctx.GP
 dsimp only
 split
 ·rfl
 ·rename_i hq
  unfold Ctx.Bt at h
  rw [if_neg (λhb=>hq (.inl hb)),if_neg (λhb=>hq (.inr (.inl hb)))] at h
  exact absurd (.inr (.inr ⟨o,h⟩)) hq
omit hm in
theorem ab7:∀ n c ch L,dE bd n=some (some c)->R.hp c=some ch->ch.body.mut=true->R.σ c=some L->R.Bt bd bI w L.block=none/\R.GP bd bI w L.block=none:=λn c ch L h1 h2 h3 h4=>by
 have hb:R.B8 bd L.block:=⟨n,c,ch,L,h1,h2,h3,h4,rfl⟩
 exact ⟨by unfold Ctx.Bt;rw [if_pos hb],by unfold Ctx.GP;dsimp only;rw [if_pos (.inl hb)]⟩
theorem stays {F₂:Nat->Option Obj} {U₂:Gf} {w':World} (hF:∀ b o,R.Bt bd bI w b=some o->F₂ b=some o) (hU:U₂=R.GP bd bI w) (h1:∀ b o,F₂ b=some o->w'.heap[b]? =some o) (h2:∀ b o,U₂ b=some o->w'.heap[b]? =some o):
 ∀ b,b<w.heap.size->¬R.B8 bd b->w'.heap[b]? =w.heap[b]? :=λb hb hn=>by
 have hs:w.heap[b]? =some w.heap[b]:=by simp [hb]
 by_cases hbo:bI=true
 ·have:R.Bt bd bI w b=some w.heap[b]:=by
   unfold Ctx.Bt
   rw [if_neg hn,if_pos hbo,hs]
  rw [h1 _ _ (hF _ _ this),hs]
 ·by_cases hRF:∃ o,R.F b=some o
  ·obtain ⟨o,ho⟩:=hRF
   have:=hm.F b o ho
   rw [h1 _ _ (hF _ _ (JK hm b o ho)),this]
  ·have:R.GP bd bI w b=some w.heap[b]:=by
    unfold Ctx.GP
    dsimp only
    rw [if_neg (by rintro (h|h|h);exact hn h;exact hbo h;exact hRF h),hs]
   rw [<-hU] at this
   rw [h2 _ _ this,hs]
end
end Sx
end
section
namespace Sx
open Go
structure SY (N R:Ctx) (ν:Nm) (lists:Bool):Prop where
 hp:∀ n ch,N.hp n=some ch->ch.ep=0/\∃ ch',R.hp (ν n).1=some ch'/\ch'.ep=(ν n).2/\ch'.body.shape=ch.body.shape/\R.σ (ν n).1=N.σ n
 F:lists=true->∀ b o,N.F b=some o->R.F b=some o
theorem ww {F F':Nat->Option Obj}:∀ (t:Ty) (_:t.ct=false) (x:t.T) (cs:List Value),Rep F t x cs->Rep F' t x cs
 |.bool,_,_,_,h=>h
 |.u64,_,_,_,h=>h
 |.u8,_,_,_,h=>h
 |.int,_,_,_,h=>h
 |.str,_,_,_,h=>h
 |.elem,_,_,_,h=>h
 |.prod a b,hp,x,cs,h=>by
  simp only [Ty.ct,Bool.or_eq_false_iff] at hp
  exact ⟨h.1,ww a hp.1 _ _ h.2.1,ww b hp.2 _ _ h.2.2⟩
 |.arr n t,hp,x,cs,h=>⟨h.1,h.2.1,λi hi=>ww t hp _ _ (h.2.2 i hi)⟩
def SV.still:SV->Bool
 |.bool _|.u64 _|.u8 _|.int _|.str _|.lst .. =>true
 |_=>false
theorem Uc {R R':Ctx} (hF:∀ b o,R.F b=some o->R'.F b=some o):∀ {x:SV} {v:Value},x.still=true->SV.rel R x v->SV.rel R' x v:=by
 intro x v hf h
 cases x<;>first|(cases hf;done)|(simp only [SV.rel] at h⊢;first|exact h|exact bR hF _ _ _ h)
theorem MV {R R':Ctx} (hF:∀ b o,R.F b=some o->R'.F b=some o):∀ {l:List SV} {vs:List Value},l.all SV.still=true->SV.bz R l vs->SV.bz R' l vs
 | [],vs,_,h=>by simpa only [SV.bz] using h
 |x::l,vs,hf,h=>by
  simp only [aA,aw] at hf
  simp only [SV.bz] at h⊢
  obtain ⟨v,r,h1,h2,h3⟩:=h
  exact ⟨v,r,h1,Uc hF hf.1 h2,MV hF hf.2 h3⟩
theorem kt:∀ (t:Ty) (x:t.T),(unpack t x).all SV.still=true
 |.bool,_=>rfl
 |.u64,_=>rfl
 |.u8,_=>rfl
 |.int,_=>rfl
 |.str,_=>rfl
 |.elem,_=>rfl
 |.prod a b,x=>by simp only [unpack,List.all_append,kt a,kt b,Bool.and_self]
 |.arr n t,x=>by
  simp only [unpack,List.all_flatMap,fX]
  intro i _
  simpa [fX] using kt t _
 |.list t,_=>rfl
theorem gC:∀ {t:Ty},t.ct=false->t.plain=true
 |.bool,_=>rfl
 |.u64,_=>rfl
 |.u8,_=>rfl
 |.int,_=>rfl
 |.str,_=>rfl
 |.elem,_=>rfl
 |.prod a b,h=>by
  simp only [Ty.ct,Bool.or_eq_false_iff] at h
  simp only [Ty.plain,gC h.1,gC h.2,Bool.and_self]
 |.arr n t,h=>gC (t:=t) h
section
variable {N R:Ctx} {ν:Nm} {lists:Bool} (hr:SY N R ν lists)
include hr
theorem IG {n:Nat} {v:Value} (h:N.own n 0 v):R.own (ν n).1 (ν n).2 v:=by
 obtain ⟨ch,hc,_,h⟩:=h
 obtain ⟨he,ch',k1,k2,k3,k4⟩:=hr.hp n ch hc
 obtain ⟨ch2,hc2,_,h2⟩:=h he.symm
 rw [hc] at hc2
 cases hc2
 obtain ⟨h5,h6,ad,cap,h7,h8,h9⟩:=h2 he.symm
 refine ⟨ch',k1,by omega,λ_=>⟨ch',k1,by omega,λ_=> ?_⟩⟩
 rw [k4,k3]
 exact ⟨h5,h6,ad,cap,h7,h8,h9⟩
theorem xZ {n i off:Nat} {v:Value} (h:N.ptr n 0 i off v):R.ptr (ν n).1 (ν n).2 i off v:=by
 obtain ⟨ch,hc,_,h⟩:=h
 obtain ⟨he,ch',k1,k2,k3,k4⟩:=hr.hp n ch hc
 obtain ⟨L,h1,h2⟩:=h he.symm
 exact ⟨ch',k1,by omega,λ_=>⟨L,by rw [k4];exact h1,by rw [k3];exact h2⟩⟩
theorem E8:∀ (ns:List Nat) (us:List Value),SV.bz N (ns.map λn=>.ptr n 0 0 0) us->SV.bz R (ns.map λn=>.ptr (ν n).1 (ν n).2 0 0) us
 | [],us,h=>h
 |n::ns,us,h=>by
  simp only [List.map_cons,SV.bz,SV.rel] at h⊢
  obtain ⟨v,us',rfl,h1,h2⟩:=h
  exact ⟨v,us',rfl,⟨h1.1,xZ hr h1.2⟩,E8 ns us' h2⟩
theorem nZ {t:Ty} (hl:lists=true\/t.ct=false) {x:t.T} {us:List Value} (h:SV.bz N (unpack t x) us):SV.bz R (unpack t x) us:=by
 rcases hl with hl|hl
 ·exact MV (hr.F hl) (kt t x) h
 ·exact WY (mi t (gC hl) x) h
theorem yl {s:Sh} (hl:lists=true\/s.ct=false) {y:s.T} {us:List Value} (h:SV.bz N (oz s y) us):SV.bz R (yV ν s y) us:=by
 cases s<;>simp only [oz,yV] at h⊢
 case val b t=>exact nZ hr hl h
 case mix a n b=>
  have ha:lists=true\/a.ct=false:=hl.imp_right λe=>by simp only [Sh.ct,Bool.or_eq_false_iff] at e;exact e.1
  have hb:lists=true\/b.ct=false:=hl.imp_right λe=>by simp only [Sh.ct,Bool.or_eq_false_iff] at e;exact e.2
  have t1:=SV.cX h (unpack a y.1).length
  have t2:=SV.cY h (unpack a y.1).length
  rw [List.take_left] at t1
  rw [List.drop_left] at t2
  have t3:=SV.cX t2 1
  have t4:=SV.cY t2 1
  obtain ⟨v,hv1,hv⟩:=bY (show SV.bz N [.own n 0] ((us.drop (unpack a y.1).length).take 1) from t3)
  simp only [SV.rel] at hv
  have q3:SV.bz R [.own (ν n).1 (ν n).2] ((us.drop (unpack a y.1).length).take 1):=by
   rw [hv1]
   exact bc (by simp only [SV.rel];exact ⟨hv.1,IG hr hv.2⟩)
  have:=SV.bA (nZ hr ha t1) (SV.bA q3 (nZ hr hb (show SV.bz N (unpack b y.2.2) _ from t4)))
  rw [List.take_append_drop,List.take_append_drop] at this
  exact this
 case own n=>
  obtain ⟨v,rfl,hv⟩:=bY h
  simp only [SV.rel] at hv
  exact bc (by simp only [SV.rel];exact ⟨hv.1,IG hr hv.2⟩)
 case ptr n i off=>
  obtain ⟨v,rfl,hv⟩:=bY h
  simp only [SV.rel] at hv
  exact bc (by simp only [SV.rel];exact ⟨hv.1,xZ hr hv.2⟩)
 case fn f ns=>
  obtain ⟨v,rfl,hv⟩:=bY h
  simp only [SV.rel] at hv
  obtain ⟨l1,l2,rfl,h3,h4⟩:=hv
  exact bc (by simp only [SV.rel];exact ⟨l1,l2,rfl,by simpa only [SV.bz] using h3,E8 hr ns l2 h4⟩)
 case ife t=>
  obtain ⟨v,rfl,hv⟩:=bY h
  exact bc (adg hv)
 case ifp t n=>
  obtain ⟨v,rfl,hv⟩:=bY h
  simp only [SV.rel] at hv
  obtain ⟨y,rfl,hy⟩:=hv
  exact bc (by simp only [SV.rel];exact ⟨y,rfl,hy.1,xZ hr hy.2⟩)
 all_goals (
  obtain ⟨v,rfl,hv⟩:=bY h
  simp only [SV.rel] at hv
  exact bc (by simp only [SV.rel];exact hv))
omit hr in
theorem Mq {s:Sh} {y:s.T}:(yV ν s y).length=(oz s y).length:=by
 cases s<;>first|rfl|simp only [oz,yV,bK,List.length_cons,List.length_nil]
theorem Ug {s:Sh} (hl:lists=true\/s.ct=false) {y:s.T} {v:Value} (h:SV.rel N (s8 s y) v):SV.rel R (Rg ν s y) v:=by
 unfold s8 at h
 unfold Rg
 unfold rG at h⊢
 cases ha:s.agg<;>rw [ha] at h
 ·simp only [Bool.false_eq_true,if_false] at h⊢
  cases s
  case val b t=>
   simp only [oz,yV] at h⊢
   cases hc:unpack t y with
   |nil=>simp [SV.rel]
   |cons u l=>
    rw [hc] at h
    rcases hl with hl|hl
    ·have:=kt t y
     rw [hc] at this
     simp only [aA,aw] at this
     exact Uc (hr.F hl) this.1 h
    ·have:=mi t (gC hl) y
     rw [hc] at this
     simp only [aA,aw] at this
     exact ahf this.1 h
  case mix a n b=>cases ha
  all_goals (
   have h1:=yl (y:=y) hr hl (bc h)
   obtain ⟨v',he,hv⟩:=bY h1
   cases he
   exact hv)
 ·simp only [if_true,SV.rel] at h⊢
  obtain ⟨vs,h1,h2,h3⟩:=h
  exact ⟨vs,h1,yl hr hl h2,h3⟩
end
end Sx
end
section
namespace Sx
open Go
theorem OT.run_bind {α β:Type} {f:α->OT β}:∀ {t:OT α} {b:β},(t.bind f).run=some b->∃ a,t.run=some a/\(f a).run=some b
 |.ok a,b,h=>⟨a,rfl,h⟩
 |.br c x y,b,h=>by
  cases c
  ·exact OT.run_bind (t:=y) h
  ·exact OT.run_bind (t:=x) h
 |.fail,b,h=>by cases h
theorem sw {m:Nat}:∀ (u:List (Nat×Ch)) {hp:Hp},m ∈ bu u->∃ ch,(m,ch) ∈ u/\cO hp u m=some ch
 | [],_,h=>by simp [bu] at h
 |(c,ch)::r,hp,h=>by
  by_cases h2:m ∈ bu r
  ·obtain ⟨ch',h3,h4⟩:=sw r (hp:=λn=>if n=c then some ch else hp n) h2
   exact ⟨ch',by simp [h3],h4⟩
  ·have h1:m=c:=by
    simp only [bu,List.map_cons,List.mem_cons] at h
    exact h.resolve_right h2
   subst h1
   refine ⟨ch,by simp,?_⟩
   simp only [cO]
   rw [eJ r h2]
   simp
theorem Ar {ν:Nm} {bd:Bd} {ok:Nat->Bool} {hp:Hp}:∀ {l:List (Nat×CSh)} {x:Gh l} {c:Nat} {ch:Ch},fk bd ok hp l=some x->(c,ch) ∈ ks ν l x->
 ∃ n s y,(n,s) ∈ l/\c=(ν n).1/\kB bd ok hp n s=some y/\ch=⟨(ν n).2,gL ν s y⟩
 | [],_,_,_,_,h=>by cases h
 |q::r,x,c,ch,hp,h=>by
  obtain ⟨h1,h2⟩:=aW hp
  simp only [ks,List.mem_cons] at h
  rcases h with h|h
  ·cases h
   exact ⟨q.1,q.2,x.1,by simp,rfl,h1,rfl⟩
  ·obtain ⟨n,s,y,k1,k2⟩:=Ar h2 h
   exact ⟨n,s,y,by simp [k1],k2⟩
theorem pa {ν:Nm}:∀ {l:List (Nat×CSh)} {x:Gh l} {c:Nat},c ∈ bu (ks ν l x) ↔ ∃ n s,(n,s) ∈ l/\c=(ν n).1
 | [],_,_=>by simp [ks,bu]
 |q::r,x,c=>by
  have ih:=pa (ν:=ν) (l:=r) (x:=x.2) (c:=c)
  unfold bu at ih⊢
  simp only [ks,List.map_cons,List.mem_cons]
  constructor
  ·rintro (h|h)
   ·exact ⟨q.1,q.2,.inl rfl,h⟩
   ·obtain ⟨n,s,h1,h2⟩:=ih.1 h
    exact ⟨n,s,.inr h1,h2⟩
  ·rintro ⟨n,s,h1|h1,h2⟩
   ·left;rw [<-h1] at*;exact h2
   ·exact .inr (ih.2 ⟨n,s,h1,h2⟩)
theorem mh {bd:Bd} {hp:Hp} {fixed:Nat}:∀ {l:List (Nat×CSh)} {c:Nat} {ch:Ch},(c,ch) ∈ dM bd hp fixed l->(∃ n,dE bd n=some (some c)/\fixed<=n)/\ch=⟨Zq hp c+1,.row .u8 []⟩
 | [],_,_,h=>by cases h
 |q::r,c,ch,h=>by
  simp only [dM] at h
  cases hb:Nat.blt q.1 fixed
  ·rw [hb] at h
   simp only [aT] at h
   split at h
   ·rename_i o ho
    simp only [List.mem_cons] at h
    rcases h with h|h
    ·cases h
     have:¬q.1<fixed:=λhlt=>by rw [Ye hlt] at hb;cases hb
     exact ⟨⟨q.1,ho,by omega⟩,rfl⟩
    ·exact mh h
   ·exact mh h
  ·rw [hb] at h
   exact mh (by simpa using h)
theorem Hy {bd:Bd} {hp:Hp} {fixed:Nat}:∀ {l:List (Nat×CSh)} {n c:Nat} {s:CSh},(n,s) ∈ l->dE bd n=some (some c)->fixed<=n->c ∈ bu (dM bd hp fixed l)
 | [],_,_,_,h,_,_=>by cases h
 |q::r,n,c,s,h,hb,hn=>by
  simp only [dM]
  rcases List.mem_cons.1 h with h|h
  ·subst h
   have:Nat.blt n fixed=false:=by
    cases hq:Nat.blt n fixed
    ·rfl
    ·have:=dI hq;omega
   unfold bu
   simp only [this,aT,hb,List.map_cons,List.mem_cons]
   exact .inl trivial
  ·have ih:=Hy (hp:=hp) h hb hn
   cases Nat.blt q.1 fixed
   ·simp only [aT]
    split
    ·unfold bu at ih⊢
     simp only [List.map_cons,List.mem_cons]
     exact .inr ih
    ·exact ih
   ·exact ih
theorem iK:∀ (u v:List (Nat×Ch)) {hp:Hp},cO hp (u++v)=cO (cO hp u) v
 | [],_,_=>rfl
 |(c,ch)::r,v,hp=>iK r v
theorem aqv {u:List (Nat×Ch)} {c:Nat} {ch:Ch} (h:(c,ch) ∈ u):c ∈ bu u:=List.mem_map.2 ⟨_,h,rfl⟩
theorem jz:∀ {l:List (Nat×CSh)},distinct (l.map (·.1))=true->∀ {n:Nat} {s s':CSh},(n,s) ∈ l->(n,s') ∈ l->s=s'
 | [],_,_,_,_,h,_=>by cases h
 |q::r,hd,n,s,s',h,h'=>by
  simp only [List.map_cons,distinct,aw,Bool.not_eq_true'] at hd
  have no:∀ s,(n,s) ∈ r->q.1≠n:=λs hs e=>by
   have:=hd.1
   rw [List.any_eq_false] at this
   exact this n (List.mem_map.2 ⟨_,hs,rfl⟩) (by rw [e];exact Nat.beq_refl n)
  rcases List.mem_cons.1 h with h|h<;>rcases List.mem_cons.1 h' with h'|h'
  ·rw [<-h'] at h;cases h;rfl
  ·exact absurd (by rw [<-h]) (no s' h')
  ·exact absurd (by rw [<-h']) (no s h)
  ·exact jz hd.2 h h'
theorem lj {ν:Nm}:∀ {l:List Sh} {x:ShT l},(oA ν l x).length=(lT l x).length
 | [],_=>rfl
 |s::r,x=>by simp only [oA,lT,bK,Mq,lj]
theorem ta {ν:Nm} {s:CSh} {y:s.T}:(gL ν s y).shape=(cA s y).shape:=by
 cases s<;>simp only [gL,cA,Chunk.shape]
 case cells l=>
  have:=lj (ν:=ν) (l:=l) (x:=y)
  rw [this]
theorem lS {ν:Nm} {s:CSh} {y:s.T}:(gL ν s y).mut=(cA s y).mut:=by
 cases s<;>rfl
theorem VX {s:CSh} {y:s.T}:(cA s y).mut= !s.VP:=by
 cases s<;>rfl
end Sx
end
section
namespace Sx
open Go
section
variable {R:Ctx} {w w':World} {S:af} {args:List SV} {bd:Bd} {xc:Gh S.chunks} {N N2:Ctx} {o:aL} {yc:Gh o.chunks} {base:Nat}
def Ctx.aGL (N:Ctx) (k:Nat):Ctx:= {N with hp:=λn=>cond (Nat.blt n k) (N.hp n) none}
structure Ai (R:Ctx) (w w':World) (S:af) (args:List SV) (bd:Bd) (xc:Gh S.chunks) (N2:Ctx) (o:aL) (yc:Gh o.chunks) (base:Nat):Prop where
 hm:cz R w
 ok:S.inp.Lr ⟨args,R.hp⟩ bd=true
 hx:fk bd (tA S.bI bd) R.hp S.chunks=some xc
 ext:((R.named (R.Bt bd S.bI w) (R.GP bd S.bI w) bd (dO S.chunks xc)).aGL S.fixed).Ext N2
 hm2:cz N2 w'
 hp2:N2.hp=dO o.chunks yc
 aGR:∃ bd2 ok2 hp2,fk bd2 ok2 hp2 o.chunks=some yc
 aEk:distinct (o.chunks.map (·.1))=true
 m7:S.m7 bd R.hp base o=true
open Classical in
noncomputable def Ctx.kQ (R:Ctx) (bd:Bd) (w:World) (N2:Ctx):Nat->Option Obj:=λb=>
 if b<w.heap.size/\¬R.B8 bd b then R.F b else N2.F b
open Classical in
noncomputable def Ctx.eR (R:Ctx) (bd:Bd) (w:World) (S:af) (N2:Ctx) (o:aL) (yc:Gh o.chunks) (base:Nat):Ctx:=
 ⟨R.kQ bd w N2,R.U,λc=>match o.chunks.find? (λq=>Nat.beq (S.nm bd R.hp base q.1).1 c) with
  |some q=>N2.σ q.1
  |none=>if c ∈ bu (dM bd R.hp S.fixed S.chunks) then none else R.σ c,
  cO R.hp (dM bd R.hp S.fixed S.chunks++ks (S.nm bd R.hp base) o.chunks yc)⟩
variable (H:Ai R w w' S args bd xc N2 o yc base)
include H
theorem Ai.inF:∀ b o',R.Bt bd S.bI w b=some o'->N2.F b=some o':=λb o' h=>H.ext.F b o' h
theorem Ai.inU:N2.U=R.GP bd S.bI w:=H.ext.U
theorem Ai.old:∀ b,b<w.heap.size->¬R.B8 bd b->w'.heap[b]? =w.heap[b]? :=
 stays H.hm H.inF H.inU H.hm2.F H.hm2.U
theorem aGE {b:Nat} {o':Obj} (h:R.F b=some o'):b<w.heap.size/\¬R.B8 bd b:=
 ⟨(Array.getElem?_eq_some_iff.1 (H.hm.F b o' h)).1,λhb=>by rw [(Ex H.hm hb).1] at h;cases h⟩
theorem Cd:∀ b o',R.F b=some o'->R.kQ bd w N2 b=some o':=λb o' h=>by
 unfold Ctx.kQ
 rw [if_pos (aGE H h)]
 exact h
theorem Lx:∀ b o',R.kQ bd w N2 b=some o'->w'.heap[b]? =some o':=λb o' h=>by
 unfold Ctx.kQ at h
 split at h
 ·rename_i hb
  rw [H.old b hb.1 hb.2];exact H.hm.F b o' h
 ·exact H.hm2.F b o' h
theorem Ly (hb:S.bI=false):∀ b o',N2.F b=some o'->R.kQ bd w N2 b=some o':=λb o' h=>by
 unfold Ctx.kQ
 split
 ·rename_i hq
  cases hR:R.F b with
  |some o2=>
   have h1:=H.hm.F b o2 hR
   rw [<-H.old b hq.1 hq.2,H.hm2.F b o' h] at h1
   exact h1.symm
  |none=>
   exfalso
   have h2:=H.hm2.FU b o' h
   rw [H.inU] at h2
   unfold Ctx.GP at h2
   dsimp only at h2
   rw [if_neg (by rintro (h|h|⟨o2,h⟩);exact hq.2 h;rw [hb] at h;cases h;rw [hR] at h;cases h)] at h2
   simp [hq.1] at h2
 ·exact h
theorem Lj {b:Nat} (hF:N2.F b=none) (hU:N2.U b=none):R.F b=none/\R.U b=none/\R.kQ bd w N2 b=none/\(w.heap.size<=b\/R.B8 bd b):=by
 by_cases hb:b<w.heap.size
 ·have hs:w.heap[b]? =some w.heap[b]:=by simp [hb]
  have hbd:R.B8 bd b:=lz λhn=>by
   have h1:R.Bt bd S.bI w b=none:=by
    cases hq:R.Bt bd S.bI w b with
    |none=>rfl
    |some o'=>rw [H.inF b o' hq] at hF;cases hF
   rw [H.inU] at hU
   unfold Ctx.GP at hU
   dsimp only at hU
   unfold Ctx.Bt at h1
   rw [if_neg hn] at h1
   by_cases hbo:S.bI=true
   ·rw [if_pos hbo,hs] at h1;cases h1
   ·rw [if_neg hbo] at h1
    rw [if_neg (by rintro (h|h|⟨o2,h⟩);exact hn h;exact hbo h;rw [h1] at h;cases h),hs] at hU
    cases hU
  refine ⟨(Ex H.hm hbd).1,(Ex H.hm hbd).2,?_,.inr hbd⟩
  unfold Ctx.kQ
  rw [if_neg (λh=>h.2 hbd)]
  exact hF
 ·refine ⟨?_,?_,?_,.inl (by omega)⟩
  ·cases hR:R.F b with
   |none=>rfl
   |some o'=>exact absurd (aGE H hR).1 hb
  ·cases hR:R.U b with
   |none=>rfl
   |some o'=>exact absurd (Array.getElem?_eq_some_iff.1 (H.hm.U b o' hR)).1 hb
  ·unfold Ctx.kQ
   rw [if_neg (λh=>hb h.1)]
   exact hF
theorem qC:S.bI=false\/(o.rs.any Sh.ct=false/\∀ q ∈ o.chunks,q.2.ct=false/\(q.2.VP=true->q.1<S.fixed)):=by
 have h:=H.m7
 unfold af.m7 at h
 simp only [aw] at h
 have h1:=h.1
 cases hb:S.bI
 ·exact .inl rfl
 ·right
  rw [hb] at h1
  simp only [Bool.not_true,Bool.false_or,Bool.not_eq_true',Bool.or_eq_false_iff] at h1
  refine ⟨h1.1,λq hq=> ?_⟩
  have h2:=List.any_eq_false.1 h1.2 q hq
  simp only [Bool.or_eq_true,aw,Bool.not_eq_true',not_or,not_and] at h2
  refine ⟨by simpa using h2.1,λhf=> ?_⟩
  have:=h2.2 hf
  exact dI (by simpa using this)
theorem KF {k:Nat} (hk:k<S.fixed):(∃ c,dE bd k=some (some c))/\∃ s,(k,s) ∈ o.chunks:=by
 have h:=H.m7
 unfold af.m7 at h
 simp only [aw,fX] at h
 have h1:=h.2.1 k (by simpa using hk)
 constructor
 ·have h2:=h1.1
  split at h2
  ·rename_i c hc;exact ⟨c,hc⟩
  ·cases h2
 ·obtain ⟨q,hq,he⟩:=List.any_eq_true.1 h1.2
  have:=aY he
  subst this
  exact ⟨q.2,hq⟩
theorem asz {q:Nat×CSh} (hq:q ∈ o.chunks) {q':Nat×CSh} (hq':q' ∈ S.chunks) (he:q.1=q'.1) (hf:q.1<S.fixed):q.2.VP=q'.2.VP:=by
 have h:=H.m7
 unfold af.m7 at h
 simp only [aw,fX] at h
 have h1:=h.2.2.1 q hq q' hq'
 simp only [he,Nat.beq_refl,Bool.not_true,Bool.false_or] at h1
 rw [he] at hf
 rw [Ye hf] at h1
 simpa using h1
theorem tP {q:Nat×CSh} (hq:q ∈ o.chunks):q.2.iO=false/\(q.1<S.fixed\/(q.1-S.fixed<64/\R.hp (base+(q.1-S.fixed))=none)):=by
 have h:=H.m7
 unfold af.m7 at h
 simp only [aw,fX] at h
 have h1:=h.2.2.2 q hq
 simp only [Bool.or_eq_true,aw,Bool.not_eq_true'] at h1
 refine ⟨h1.1,?_⟩
 rcases h1.2 with h2|h2
 ·exact .inl (dI h2)
 ·refine .inr ⟨dI h2.1,?_⟩
  have:=h2.2
  cases hq:R.hp (base+(q.1-S.fixed)) with
  |none=>rfl
  |some c=>rw [hq] at this;cases this
end
end Sx
end
section
namespace Sx
open Go
section
variable {R:Ctx} {w w':World} {S:af} {args:List SV} {bd:Bd} {xc:Gh S.chunks} {N N2:Ctx} {o:aL} {yc:Gh o.chunks} {base:Nat}
variable (H:Ai R w w' S args bd xc N2 o yc base)
include H
theorem Nr {n:Nat} {s:CSh} (h:(n,s) ∈ o.chunks):∃ y:s.T,N2.hp n=some ⟨0,cA s y⟩/\((S.nm bd R.hp base n).1,(⟨(S.nm bd R.hp base n).2,gL (S.nm bd R.hp base) s y⟩:Ch)) ∈ ks (S.nm bd R.hp base) o.chunks yc:=by
 obtain ⟨bd2,ok2,hp2,hp⟩:=H.aGR
 obtain ⟨ch,hch⟩:=s9 (x:=yc) (n:=n) ⟨s,h⟩
 obtain ⟨s',y,h1,h2,h3⟩:=dS hp hch
 obtain rfl:=jz H.aEk h h1
 have hg:=(tP H h).1
 have hep:s.ep=0:=by cases s<;>first|rfl|(cases hg)
 refine ⟨y,by rw [H.hp2,hch,h3,hep],?_⟩
 have:∀ {l:List (Nat×CSh)} {x:Gh l},fk bd2 ok2 hp2 l=some x->(n,s) ∈ l->((S.nm bd R.hp base n).1,(⟨(S.nm bd R.hp base n).2,gL (S.nm bd R.hp base) s y⟩:Ch)) ∈ ks (S.nm bd R.hp base) l x:=by
  intro l
  induction l with
  |nil=>simp
  |cons q r ih=>
   intro x hp hm
   obtain ⟨p1,p2⟩:=aW hp
   grind [ks]
 grind
theorem aj6 {c:Nat} {ch:Ch} (h:(c,ch) ∈ ks (S.nm bd R.hp base) o.chunks yc):∃ n s,∃ y:s.T,(n,s) ∈ o.chunks/\c=(S.nm bd R.hp base n).1/\N2.hp n=some ⟨0,cA s y⟩/\ch=⟨(S.nm bd R.hp base n).2,gL (S.nm bd R.hp base) s y⟩:=by
 obtain ⟨bd2,ok2,hp2,hp⟩:=H.aGR
 obtain ⟨n,s,y,h1,h2,h3,h4⟩:=Ar hp h
 refine ⟨n,s,y,h1,h2,?_,h4⟩
 obtain ⟨ch,hch⟩:=s9 (x:=yc) (n:=n) ⟨s,h1⟩
 obtain ⟨s',y',k1,k2,k3⟩:=dS hp hch
 obtain rfl:=jz H.aEk h1 k1
 have:y=y':=(by grind)
 subst this
 have hg:=(tP H h1).1
 have hep:s.ep=0:=by cases s<;>first|rfl|(cases hg)
 rw [H.hp2,hch,k3,hep]
omit H in
theorem IQ {n:Nat} (h:n<S.fixed):S.nm bd R.hp base n=(nameOf bd n,Zq R.hp (nameOf bd n)):=by
 unfold af.nm;rw [Ye h];rfl
omit H in
theorem aDr {n:Nat} (h:S.fixed<=n):S.nm bd R.hp base n=(base+(n-S.fixed),0):=by
 unfold af.nm
 have:Nat.blt n S.fixed=false:=by
  cases hq:Nat.blt n S.fixed
  ·rfl
  ·have:=dI hq;omega
 rw [this];rfl
theorem mI {k:Nat} (hk:k<S.fixed):∃ c ch,∃ ch2:Ch,dE bd k=some (some c)/\nameOf bd k=c/\R.hp c=some ch/\Zq R.hp c=ch.ep/\N2.hp k=some ch2/\ch2.ep=0/\ch2.body.shape=ch.body.shape/\N2.σ k=R.σ c/\
 (∃ cs,(k,cs) ∈ S.chunks/\(!cs.VP)=ch.body.mut):=by
 obtain ⟨⟨c,hb⟩,s,hs⟩:=KF H hk
 obtain ⟨cs,y,h1,h2⟩:=SN (s:=S.inp) (st:=⟨args,R.hp⟩) H.ok H.hx hb
 simp [kB,hb] at h1
 split at h1
 ·rename_i ch hch
  obtain ⟨y2,g1,_⟩:=Nr H hs
  obtain ⟨ch2,e1,e2,e3⟩:=H.ext.ch k ⟨0,cA cs y⟩ (by
   show cond (Nat.blt k S.fixed) (dO S.chunks xc k) none=_
   rw [Ye hk];exact h2)
  rw [g1] at e1
  cases e1
  have e4:=e3 rfl
  refine ⟨c,ch,_,hb,by grind [nameOf],hch,by grind [Zq],g1,rfl,e4.1.trans (wP h1),?_,?_⟩
  ·grind [Ctx.aGL,Ctx.named]
  ·obtain ⟨s3,y3,k1,k2,k3⟩:=dS H.hx h2
   grind [kB,Fa,VX]
 grind
theorem aAn {n m:Nat} {s s':CSh} (hn:(n,s) ∈ o.chunks) (hm:(m,s') ∈ o.chunks) (h:(S.nm bd R.hp base n).1=(S.nm bd R.hp base m).1):n=m:=by
 have half:∀ {a b:Nat} {t t':CSh},(a,t) ∈ o.chunks->(b,t') ∈ o.chunks->a<S.fixed->S.fixed<=b->(S.nm bd R.hp base a).1=(S.nm bd R.hp base b).1->False:=λ{a b t t'} h1 h2 h3 h4 h5=>by
  rw [IQ h3,aDr h4] at h5
  obtain ⟨c,ch,_,g1,g2,g3,_⟩:=mI H h3
  rcases (tP H h2).2 with hq|hq
  ·have:b<S.fixed:=hq
   omega
  grind
 rcases Nat.lt_or_ge n S.fixed with h1|h1<;>rcases Nat.lt_or_ge m S.fixed with h2|h2
 ·rw [IQ h1,IQ h2] at h
  obtain ⟨c,_,_,g1,g2,_⟩:=mI H h1
  obtain ⟨c',_,_,g1',g2',_⟩:=mI H h2
  have hok:=H.ok
  unfold Shape.Lr at hok
  simp only [aw,fX,List.any_eq_true] at hok
  obtain ⟨p,hp,hpe⟩:=hok.1.2 _ (oO g1)
  obtain ⟨p',hp',hpe'⟩:=hok.1.2 _ (oO g1')
  have e1:=aY hpe
  have e2:=aY hpe'
  have h3:=hok.1.1.2 p hp p' hp'
  simp_all
 ·exact (half hn hm h1 h2 h).elim
 ·exact (half hm hn h2 h1 h.symm).elim
 grind [aDr]
theorem P5 {n:Nat} {s:CSh} (h:(n,s) ∈ o.chunks):(R.eR bd w S N2 o yc base).σ (S.nm bd R.hp base n).1=N2.σ n:=by
 show (match o.chunks.find? (λq=>Nat.beq (S.nm bd R.hp base q.1).1 (S.nm bd R.hp base n).1) with|some q=>N2.σ q.1|none=>_)=_
 cases hf:o.chunks.find? (λq=>Nat.beq (S.nm bd R.hp base q.1).1 (S.nm bd R.hp base n).1) with
 |none=>
  have:=List.find?_eq_none.1 hf (n,s) h
  simp_all
 |some q=>
  grind [List.mem_of_find?_eq_some,aAn,aY]
omit H in
theorem Uk {c:Nat} (h:c ∉ bu (ks (S.nm bd R.hp base) o.chunks yc)):(R.eR bd w S N2 o yc base).σ c=(open Classical in if c ∈ bu (dM bd R.hp S.fixed S.chunks) then none else R.σ c):=by
 show (match o.chunks.find? (λq=>Nat.beq (S.nm bd R.hp base q.1).1 c) with|some q=>N2.σ q.1|none=>_)=_
 cases hf:o.chunks.find? (λq=>Nat.beq (S.nm bd R.hp base q.1).1 c) with
 |none=>rfl
 |some q=>
  exfalso
  have h1:=aY (List.find?_some (p:=λq:Nat×CSh=>Nat.beq (S.nm bd R.hp base q.1).1 c) hf)
  have h2:=List.mem_of_find?_eq_some hf
  exact h (pa.2 ⟨q.1,q.2,h2,h1.symm⟩)
theorem Rw {c:Nat} {ch:Ch} (h:(R.eR bd w S N2 o yc base).hp c=some ch):
 (∃ n s,∃ y:s.T,(n,s) ∈ o.chunks/\c=(S.nm bd R.hp base n).1/\N2.hp n=some ⟨0,cA s y⟩/\ch=⟨(S.nm bd R.hp base n).2,gL (S.nm bd R.hp base) s y⟩/\(R.eR bd w S N2 o yc base).σ c=N2.σ n)\/
 (ch=⟨Zq R.hp c+1,.row .u8 []⟩/\(R.eR bd w S N2 o yc base).σ c=none)\/
 (c ∉ bu (ks (S.nm bd R.hp base) o.chunks yc)/\c ∉ bu (dM bd R.hp S.fixed S.chunks)/\R.hp c=some ch/\(R.eR bd w S N2 o yc base).σ c=R.σ c):=by
 have hh:cO (cO R.hp (dM bd R.hp S.fixed S.chunks)) (ks (S.nm bd R.hp base) o.chunks yc) c=some ch:=by
  rw [<-iK];exact h
 by_cases h1:c ∈ bu (ks (S.nm bd R.hp base) o.chunks yc)
 ·obtain ⟨ch',h2,h3⟩:=sw _ (hp:=cO R.hp (dM bd R.hp S.fixed S.chunks)) h1
  grind [aj6,P5]
 ·rw [eJ _ h1] at hh
  have hs:=Uk (w:=w) (N2:=N2) h1
  by_cases h2:c ∈ bu (dM bd R.hp S.fixed S.chunks)
  ·obtain ⟨ch',h3,h4⟩:=sw _ (hp:=R.hp) h2
   grind [mh]
  grind [eJ]
theorem aj5 {c:Nat} {ch ch':Ch} (h:(c,ch) ∈ ks (S.nm bd R.hp base) o.chunks yc) (h':(c,ch') ∈ ks (S.nm bd R.hp base) o.chunks yc):ch=ch':=by
 obtain ⟨bd2,ok2,hp2,hp⟩:=H.aGR
 obtain ⟨n,s,y,a1,a2,a3,a4⟩:=Ar hp h
 obtain ⟨n',s',y',b1,b2,b3,b4⟩:=Ar hp h'
 have e1:=aAn H a1 b1 (by omega)
 subst e1
 obtain rfl:=jz H.aEk a1 b1
 grind
theorem aFZ {n:Nat} {s:CSh} (h:(n,s) ∈ o.chunks):∃ y:s.T,N2.hp n=some ⟨0,cA s y⟩/\(R.eR bd w S N2 o yc base).hp (S.nm bd R.hp base n).1=some ⟨(S.nm bd R.hp base n).2,gL (S.nm bd R.hp base) s y⟩:=by
 obtain ⟨y,h1,h2⟩:=Nr H h
 refine ⟨y,h1,?_⟩
 obtain ⟨ch',h3,h4⟩:=sw _ (hp:=cO R.hp (dM bd R.hp S.fixed S.chunks)) (aqv h2)
 have e:=aj5 H h2 h3
 rw [e,<-h4]
 show cO R.hp (_++_) _=_
 rw [iK]
theorem apg:SY N2 (R.eR bd w S N2 o yc base) (S.nm bd R.hp base) (!S.bI):=by
 refine ⟨λn ch h=> ?_,λh b o' hb=>Ly H (by grind) b o' hb⟩
 rw [H.hp2] at h
 obtain ⟨bd2,ok2,hp2,hp⟩:=H.aGR
 obtain ⟨s,y,h1,_,_⟩:=dS hp h
 obtain ⟨y',k1,k2⟩:=aFZ H h1
 rw [H.hp2,h] at k1
 cases k1
 exact ⟨rfl,_,k2,rfl,ta,P5 H h1⟩
theorem Ns {c:Nat} {ch:Ch} {L:Loc} (h1:c ∉ bu (ks (S.nm bd R.hp base) o.chunks yc)) (h2:c ∉ bu (dM bd R.hp S.fixed S.chunks)) (hc:R.hp c=some ch) (hm:ch.body.mut=true) (hL:R.σ c=some L):¬R.B8 bd L.block:=by
 rintro ⟨n,c',ch',L',k1,k2,k3,k4,k5⟩
 have:=H.hm.apart c' c ch' ch L' L k2 hc k3 hm k4 hL k5
 subst this
 rcases Nat.lt_or_ge n S.fixed with hn|hn
 ·grind [KF,pa,IQ,nameOf]
 ·have hok:=H.ok
  unfold Shape.Lr at hok
  simp only [aw,fX,List.any_eq_true] at hok
  obtain ⟨p,hp,hpe⟩:=hok.1.2 _ (oO k1)
  have e1:p.1=n:=aY hpe
  subst e1
  exact h2 (Hy (s:=p.2) hp k1 hn)
end
end Sx
end
section
namespace Sx
open Go
theorem B1 {N R:Ctx} {ν:Nm} {lists:Bool} (hr:SY N R ν lists):∀ {l:List Sh} (_:lists=true\/l.any Sh.ct=false) {x:ShT l} {us:List Value},SV.bz N (lT l x) us->SV.bz R (oA ν l x) us
 | [],_,_,_,h=>h
 |s::r,hl,x,us,h=>by
  have h1:lists=true\/s.ct=false:=(by grind)
  have h2:lists=true\/r.any Sh.ct=false:=(by grind)
  simp [lT] at h
  simp [oA]
  have t1:=SV.cX h (oz s x.1).length
  have t2:=SV.cY h (oz s x.1).length
  rw [List.take_left] at t1
  rw [List.drop_left] at t2
  have:=SV.bA (yl hr h1 t1) (B1 hr h2 t2)
  simp_all
section
variable {R:Ctx} {w w':World} {S:af} {args:List SV} {bd:Bd} {xc:Gh S.chunks} {N N2:Ctx} {o:aL} {yc:Gh o.chunks} {base:Nat}
variable (H:Ai R w w' S args bd xc N2 o yc base)
include H
theorem ahN:R.Ext (R.eR bd w S N2 o yc base):=by
 refine ⟨Cd H,rfl,λc ch hc=> ?_⟩
 by_cases h1:c ∈ bu (ks (S.nm bd R.hp base) o.chunks yc)
 ·obtain ⟨n,s,hs,rfl⟩:=pa.1 h1
  obtain ⟨y,k1,k2⟩:=aFZ H hs
  rcases Nat.lt_or_ge n S.fixed with hn|hn
  ·grind [mI,P5,IQ,ta]
  ·rcases (tP H hs).2 with hq|hq
   ·omega
   grind [aDr]
 ·by_cases h2:c ∈ bu (dM bd R.hp S.fixed S.chunks)
  ·obtain ⟨ch',h3,h4⟩:=sw _ (hp:=R.hp) h2
   refine ⟨ch',?_,?_⟩
   ·show cO R.hp (_++_) c=_
    simp_all [iK,eJ]
   ·rw [(mh h3).2]
    grind [Zq]
  ·refine ⟨ch,?_,(by simp),λ_=>⟨rfl,?_⟩⟩
   ·show cO R.hp (_++_) c=_
    simp_all [iK,eJ]
   grind [Uk]
theorem apf {s:CSh} {n:Nat} (h:(n,s) ∈ o.chunks) (t:Ty) (ht:s=.row t\/s=.frz t):∀ (x:t.T) (cs:List Value),Rep N2.F t x cs->Rep (R.kQ bd w N2) t x cs:=λx cs hr=>by
 rcases qC H with hb|⟨_,hq⟩
 ·grind [bR,Ly]
 ·have:=(hq _ h).1
  refine ww t ?_ x cs hr
  rcases ht with rfl|rfl<;>exact this
theorem axu {s:CSh} {n:Nat} (h:(n,s) ∈ o.chunks):(!S.bI)=true\/s.ct=false:=by
 rcases qC H with hb|⟨_,hq⟩
 ·grind
 grind
theorem adw {n:Nat} {s:CSh} {y:s.T} (hs:(n,s) ∈ o.chunks) (hn:N2.hp n=some ⟨0,cA s y⟩) {e:Nat} {c:Nat} (hσ:(R.eR bd w S N2 o yc base).σ c=N2.σ n) (hc:c=(S.nm bd R.hp base n).1):
 eW (R.eR bd w S N2 o yc base) w' c ⟨e,gL (S.nm bd R.hp base) s y⟩:=by
 have h0:=H.hm2.ch n _ hn
 have hrep:=apf H hs
 have hgone:=(tP H hs).1
 cases s with
 |row t=>
  simp only [eW,cA] at h0⊢
  rw [hσ]
  refine ⟨h0.1,h0.2.1,?_⟩
  cases hL:N2.σ n with
  |none=>grind
  |some L=>
   have:=h0.2.2
   rw [hL] at this
   obtain ⟨c1,c2,arr,E,c3,c4,c5,c6⟩:=this
   obtain ⟨_,d2,d3,_⟩:=Lj H c1 c2
   exact ⟨d3,d2,arr,E,c3,c4,c5,λi hi=>hrep t (.inl rfl) _ _ (c6 i hi)⟩
 |frz t=>
  simp only [eW,cA] at h0⊢
  rw [hσ]
  refine ⟨h0.1,h0.2.1,?_⟩
  cases hL:N2.σ n with
  |none=>grind
  |some L=>
   have:=h0.2.2
   rw [hL] at this
   obtain ⟨arr,E,fz,c3,c4,c5,c6⟩:=this
   refine ⟨arr,E,fz,?_,c4,c5,λi hi=>hrep t (.inr rfl) _ _ (c6 i hi)⟩
   rcases qC H with hb|⟨_,hq⟩
   ·exact Ly H hb _ _ c3
   ·have hf:n<S.fixed:=(hq _ hs).2 rfl
    obtain ⟨c',ch',ch2,g1,g2,g3,g4,g5,g6,g7,g8,cs,g9,g10⟩:=mI H hf
    have hfz:=asz H hs g9 rfl hf
    have hmu:ch'.body.mut=false:=by rw [<-g10,<-hfz];rfl
    obtain ⟨o',ho⟩:=(dD H.hm g3 (by rw [<-g8];omega)).2 hmu
    have h1:=Cd H _ _ ho
    have h2:=Lx H _ _ h1
    rw [H.hm2.F _ _ c3] at h2
    cases h2
    exact h1
 |cells l=>
  obtain ⟨L,h1,h2,h3,arr,E,h4,h5,h6,h7,h8⟩:=h0
  obtain ⟨_,d2,d3,_⟩:=Lj H h2 h3
  refine ⟨L,by grind,d3,d2,arr,E,h4,h5,h6.trans (lj (l:=l) (x:=y)).symm,B1 (apg H) ?_ h7,h8⟩
  exact axu H hs
 |gone=>cases hgone
theorem ayZ:cz (R.eR bd w S N2 o yc base) w':=by
 refine ⟨Lx H,λb o' h=> ?_,λc ch hc=> ?_,λc c' ch ch' L L' h1 h2 m1 m2 s1 s2 hb=> ?_,λb o' h=> ?_,by have h2:=H.hm2.env;rw [H.inU] at h2;exact h2⟩
 ·have h1:=H.hm.U b o' h
  have hlt:=(Array.getElem?_eq_some_iff.1 h1).1
  replace h:R.U b=some o':=h
  rw [H.old b hlt (λhq=>by rw [(Ex H.hm hq).2] at h;cases h)]
  exact h1
 ·rcases Rw H hc with ⟨n,s,y,k1,k2,k3,rfl,k5⟩|⟨rfl,k2⟩|⟨k1,k2,k3,k4⟩
  ·exact adw H k1 k3 k5 k2
  ·simp only [eW]
   rw [k2]
   exact ⟨by decide,by simp,trivial⟩
  ·have h0:=H.hm.ch c ch k3
   have hfree:∀ L,ch.body.mut=true->R.σ c=some L->¬R.B8 bd L.block:=λL hm hL=>Ns H k1 k2 k3 hm hL
   obtain ⟨ep,body⟩:=ch
   cases body with
   |row t xs=>
    simp only [eW] at h0⊢
    rw [k4]
    refine ⟨h0.1,h0.2.1,?_⟩
    cases hL:R.σ c with
    |none=>have:=h0.2.2;rw [hL] at this;exact this
    |some L=>
     have:=h0.2.2
     rw [hL] at this
     obtain ⟨c1,c2,arr,E,c3,c4,c5,c6⟩:=this
     have hlt:=(Array.getElem?_eq_some_iff.1 c3).1
     have hf:=hfree L rfl hL
     refine ⟨?_,c2,arr,E,(H.old _ hlt hf).trans c3,c4,c5,λi hi=>bR (Cd H) _ _ _ (c6 i hi)⟩
     show R.kQ bd w N2 L.block=none
     grind [Ctx.kQ]
   |frz t xs=>
    simp only [eW] at h0⊢
    rw [k4]
    refine ⟨h0.1,h0.2.1,?_⟩
    cases hL:R.σ c with
    |none=>have:=h0.2.2;rw [hL] at this;exact this
    |some L=>
     have:=h0.2.2
     rw [hL] at this
     obtain ⟨arr,E,fz,c3,c4,c5,c6⟩:=this
     exact ⟨arr,E,fz,Cd H _ _ c3,c4,c5,λi hi=>bR (Cd H) _ _ _ (c6 i hi)⟩
   |cells vs=>
    simp only [eW] at h0⊢
    obtain ⟨L,hL,c1,c2,arr,E,c3,c4,c5,c6,c7⟩:=h0
    have hlt:=(Array.getElem?_eq_some_iff.1 c3).1
    have hf:=hfree L rfl hL
    refine ⟨L,k4.trans hL,?_,c2,arr,E,(H.old _ hlt hf).trans c3,c4,c5,SV.eZ (ahN H) _ _ c6,c7⟩
    show R.kQ bd w N2 L.block=none
    unfold Ctx.kQ
    rw [if_pos ⟨hlt,hf⟩]
    exact c1
 ·have inn:∀ (n:Nat) (s:CSh) (y:s.T) (L:Loc),N2.hp n=some ⟨0,cA s y⟩->(cA s y).mut=true->N2.σ n=some L->w.heap.size<=L.block\/R.B8 bd L.block:=λn s y L a1 a2 a3=>by
   have:=(dD H.hm2 a1 a3).1 a2
   exact (Lj H this.1 this.2).2.2.2
  have out:∀ (c:Nat) (ch:Ch) (L:Loc),c ∉ bu (ks (S.nm bd R.hp base) o.chunks yc)->c ∉ bu (dM bd R.hp S.fixed S.chunks)->R.hp c=some ch->ch.body.mut=true->R.σ c=some L->L.block<w.heap.size/\¬R.B8 bd L.block:=λc ch L a1 a2 a3 a4 a5=>by
   refine ⟨?_,Ns H a1 a2 a3 a4 a5⟩
   have h0:=H.hm.ch c ch a3
   obtain ⟨ep,body⟩:=ch
   cases body with
   |row t xs=>
    grind [eW]
   |frz t xs=>cases a4
   |cells vs=>
    grind [eW]
  rcases Rw H h1 with ⟨n,s,y,k1,k2,k3,rfl,k5⟩|⟨rfl,k2⟩|⟨k1,k2,k3,k4⟩<;>
   rcases Rw H h2 with ⟨n',s',y',k1',k2',k3',rfl,k5'⟩|⟨rfl,k2'⟩|⟨k1',k2',k3',k4'⟩
  ·rw [k5] at s1
   rw [k5'] at s2
   have a1:(cA s y).mut=true:=by rw [<-lS];exact m1
   have a2:(cA s' y').mut=true:=by rw [<-lS];exact m2
   have:=H.hm2.apart n n' _ _ L L' k3 k3' a1 a2 s1 s2 hb
   rw [k2,k2',this]
  ·rw [k2'] at s2;cases s2
  ·grind [lS]
  ·rw [k2] at s1;cases s1
  ·rw [k2] at s1;cases s1
  ·rw [k2] at s1;cases s1
  ·grind [lS]
  ·rw [k2'] at s2;cases s2
  ·rw [k4] at s1
   rw [k4'] at s2
   exact H.hm.apart c c' ch ch' L L' k3 k3' m1 m2 s1 s2 hb
 ·replace h:R.kQ bd w N2 b=some o':=h
  show R.U b=none
  unfold Ctx.kQ at h
  split at h
  ·exact H.hm.FU b o' h
  ·rename_i hq
   cases hU:R.U b with
   |none=>rfl
   |some o2=>
    have hlt:=(Array.getElem?_eq_some_iff.1 (H.hm.U b o2 hU)).1
    refine absurd ⟨hlt,λhbd=> ?_⟩ hq
    rw [(Ex H.hm hbd).2] at hU
    cases hU
theorem am5:dL R (R.eR bd w S N2 o yc base) w' (dM bd R.hp S.fixed S.chunks++ks (S.nm bd R.hp base) o.chunks yc):=
 ⟨ahN H,rfl,ayZ H⟩
end
end Sx
end
section
namespace Sx
open Go
theorem mC:∀ {l:List (Nat×Sh)} {x:SlT l} {tm:List SV},(ig l x tm).length=tm.length
 | [],_,_=>rfl
 |c::r,x,tm=>by simp [ig,mC]
theorem wS:∀ {rs:List Sh} {i j:Nat} {x:SlT (indexed j rs)} {tm:List SV},i<j->(ig (indexed j rs) x tm)[i]? =tm[i]?
 | [],_,_,_,_,_=>rfl
 |s::r,i,j,x,tm,h=>by
  refine (wS (rs:=r) (i:=i) (j:=j+1) (x:=x.2) (by omega)).trans ?_
  grind
theorem sk {N R:Ctx} {ν:Nm} {lists:Bool} (hr:SY N R ν lists):∀ {rs:List Sh} (_:lists=true\/rs.any Sh.ct=false) {i:Nat} {y:SlT (indexed i rs)} {tm:List SV} {us:List Value},tm.length=i+rs.length->
 SV.bz N (ig (indexed i rs) y tm) us->SV.bz R (af.emit.go ν i rs y) (us.drop i)
 | [],_,i,y,tm,us,hl,h=>by
  grind [SV.aN,indexed,ig,List.length_nil,af.emit.go,List.drop_eq_nil_of_le,uR]
 |s::r,hl',i,y,tm,us,hl,h=>by
  have h1:lists=true\/s.ct=false:=(by grind)
  have h2:lists=true\/r.any Sh.ct=false:=(by grind)
  simp at hl
  have hlen:=SV.aN h
  rw [mC] at hlen
  have hi:i<us.length:=by omega
  have ih:=sk hr h2 (i:=i+1) (y:=y.2) (tm:=tm.set i (s8 s y.1)) (us:=us) (by grind) h
  have hi2:i<(ig (indexed i (s::r)) y tm).length:=by grind [mC]
  have hv:=SV.ni h i hi2 hi
  have hg:(ig (indexed i (s::r)) y tm)[i]=s8 s y.1:=by
   have:(ig (indexed i (s::r)) y tm)[i]? =some (s8 s y.1):=by
    grind [indexed,ig,wS]
   grind
  grind [af.emit.go,mZ,SV.bz,Ug]
theorem KG {ν:Nm}:∀ {rs:List Sh} {i:Nat} {y:SlT (indexed i rs)},(af.emit.go ν i rs y).length=rs.length
 | [],_,_=>rfl
 |s::r,i,y=>by simp [af.emit.go,KG]
theorem awM {R:Ctx} {n:Nat} {x:SV} {v:Value} {l:List SV} (hv:SV.rel R x v) (hn:(ape n x).length=n) (hl:l.length=n):∃ us,SV.bz R (ape n x) us/\∀ R',SV.bz R' l us->SV.rel R' (oneOf l) v:=by
 unfold ape at hn⊢
 cases hb:Nat.beq n 1
 ·rw [hb] at hn
  have hne:n≠1:=λe=>by simp_all
  cases x<;>simp at hn⊢ <;>try rfl
  case tup q=>
   obtain ⟨vs,rfl,h1⟩:=hv
   refine ⟨vs,h1,λR' h2=> ?_⟩
   cases l with
   |nil=>exact ⟨vs,rfl,h2⟩
   |cons a l=>
    cases l with
    |nil=>grind
    |cons b l=>exact ⟨vs,rfl,h2⟩
 ·have:=aY hb
  subst this
  refine ⟨[v],bc hv,λR' h2=> ?_⟩
  cases l with
  |nil=>grind
  |cons a l=>
   grind [oneOf,bY]
section
variable {P:Program} {te:TE} {Φ:Env} (hte:kq P te) (hΦ:oa P Φ) (hany:Gi P te Φ)
theorem ahc {R N1:Ctx} {w w':World} {S:af} {args:List SV} {x:S.T} {k d:Nat} (hm:cz R w) (hx:S.inp.prj ⟨args,R.hp⟩=some x)
 (hk:S.chunks.all (λc=>Nat.blt c.1 k&& !c.2.iO)=true)
 (h1:(R.named (R.Bt (S.inp.bd ⟨args,R.hp⟩) S.bI w) (R.GP (S.inp.bd ⟨args,R.hp⟩) S.bI w) (S.inp.bd ⟨args,R.hp⟩) (dO S.chunks x.2)).Ext N1) (hm1:cz N1 w') {o:aL} {y:(o.shape S.fixed).T} {pan:Bool} {v:SV} {u:Value}
 (hv:SV.rel N1 v u) (hy:o.is y pan v N1.hp) (hend:S.m7 (S.inp.bd ⟨args,R.hp⟩) R.hp (fresh R.hp d) o=true):
 ∃ R',dL R R' w' (dM (S.inp.bd ⟨args,R.hp⟩) R.hp S.fixed S.chunks++ks (S.nm (S.inp.bd ⟨args,R.hp⟩) R.hp (fresh R.hp d)) o.chunks y.2)/\
  SV.rel R' (oneOf (af.emit.indexedN (S.nm (S.inp.bd ⟨args,R.hp⟩) R.hp (fresh R.hp d)) o.rs y.1)) u:=by
 obtain ⟨_,hy⟩:=hy
 unfold Shape.prj at hx
 dsimp only at hx
 generalize hbd:S.inp.bd ⟨args,R.hp⟩=bd at*
 cases hb:S.inp.Lr ⟨args,R.hp⟩ bd&&Nat.beq args.length S.inp.n
 ·grind
 ·rw [hb] at hx
  rw [aw] at hb
  obtain ⟨hx1,hx2⟩:=aW hx
  have hy':=hy
  unfold Shape.prj at hy'
  dsimp only at hy'
  cases hb2:(o.shape S.fixed).Lr ⟨ape o.rs.length v,N1.hp⟩ ((o.shape S.fixed).bd ⟨ape o.rs.length v,N1.hp⟩)&&Nat.beq (ape o.rs.length v).length (o.shape S.fixed).n
  ·grind
  ·rw [hb2] at hy'
   rw [aw] at hb2
   obtain ⟨hy1,hy2⟩:=aW hy'
   have hlen:(ape o.rs.length v).length=o.rs.length:=aY hb2.2
   obtain ⟨us,hus,hback⟩:=awM (l:=af.emit.indexedN (S.nm bd R.hp (fresh R.hp d)) o.rs y.1) hv hlen KG
   have hsm:Small ((R.named (R.Bt bd S.bI w) (R.GP bd S.bI w) bd (dO S.chunks x.2)).aGL S.fixed) (o.shape S.fixed).fixed:=λc ch hc=>by
    replace hc:cond (Nat.blt c S.fixed) (dO S.chunks x.2 c) none=some ch:=hc
    cases hq:Nat.blt c S.fixed
    ·grind
    ·rw [hq] at hc
     refine ⟨dI hq,?_⟩
     obtain ⟨s,y',g1,g2,g3⟩:=dS hx2 (hc:dO S.chunks x.2 c=some ch)
     have:=(List.all_eq_true.1 hk) _ g1
     simp at this
     rw [g3]
     cases s<;>first|rfl|(cases this.2)
   have hext:((R.named (R.Bt bd S.bI w) (R.GP bd S.bI w) bd (dO S.chunks x.2)).aGL S.fixed).Ext N1:=⟨h1.F,h1.U,λc ch hc=>by
    replace hc:cond (Nat.blt c S.fixed) (dO S.chunks x.2 c) none=some ch:=hc
    cases hq:Nat.blt c S.fixed
    ·grind
    ·rw [hq] at hc
     exact h1.ch c ch hc⟩
   obtain ⟨N2,g1,g2⟩:=Shape.aG4 (s:=o.shape S.fixed) (a:= {tmps:=us.toArray,defers:= []}) hsm hext ⟨rfl,hm1,hus,by rw [h1.U];rfl⟩ hy
   have hd2:distinct (o.chunks.map (·.1))=true:=by
    have:=hb2.1
    unfold Shape.Lr at this
    simp at this
    exact this.1.1.1
   have H:Ai R w w' S args bd x.2 N2 o y.2 (fresh R.hp d):=⟨hm,hb.1,hx2,g1,g2.mem,g2.hp,⟨_,_,_,hy2⟩,hd2,hend⟩
   refine ⟨R.eR bd w S N2 o y.2 (fresh R.hp d),am5 H,hback _ ?_⟩
   have ht:=g2.tm
   have:=sk (apg H) (rs:=o.rs) ?_ (i:=0) (y:=y.1) (tm:=List.replicate o.rs.length .gu) (us:=us) (by simp) ht
   ·exact this
   grind [qC]
theorem arY {f:FuncId} {fn:Func} {c:Code} (hf:P.funcs[f]? =some fn) (hb:fn.body=some c) (hname:(fn.name== "runtime.NumGoroutine")=false) {S:af} {k:Nat} (hk:S.chunks.all (λc=>Nat.blt c.1 k&& !c.2.iO)=true)
 {W:List SV->Hp->(SV->Hp->Prop)->(SV->Hp->Prop)->Prop}
 (hW:∀ (R:Ctx) (w:World) (args:List SV) (vs:List Value) (K Kp:SV->Hp->Prop),Small R k->R.U.dfs= []->cz R w->SV.bz R args vs->W args R.hp K Kp->Calls P f vs.toArray w (FV R K Kp)) {pre:S.T->Bool} {F:S.T->OT S.Y}
 (h:∀ x oy,pre x=true->(F x).run=some oy->∃ K Kp,W (S.inp.inj x).tm (S.inp.inj x).hp K Kp/\(∀ v hp,K v hp->oy.1.is oy.2 false v hp)/\∀ v hp,Kp v hp->oy.1.is oy.2 true v hp):aa P f (S.az pre F):=by
 refine ⟨?_⟩
 intro R w d args vs out hm hr hrun
 refine .inl ⟨fn,hf,hname,(by grind),?_⟩
 simp [af.az] at hrun
 split at hrun
 ·cases hrun
 ·rename_i x hx
  obtain ⟨hpre,h2⟩:=OT.aE hrun
  obtain ⟨oy,h3,h4⟩:=OT.run_bind h2
  unfold af.emit at h4
  obtain ⟨hend,h5⟩:=OT.aE h4
  obtain ⟨K,Kp,hwp,hK1,hK2⟩:=h x oy hpre h3
  have hx':=hx
  unfold Shape.prj at hx'
  dsimp only at hx'
  cases hbo:S.inp.Lr ⟨args,R.hp⟩ (S.inp.bd ⟨args,R.hp⟩)&&Nat.beq args.length S.inp.n
  ·grind
  ·rw [hbo] at hx'
   rw [aw] at hbo
   obtain ⟨hx1,hx2⟩:=aW hx'
   have hlen:args.length=S.inp.n:=aY hbo.2
   have hN:=GD (s:=S.inp) (st:=⟨args,R.hp⟩) (F':=R.Bt (S.inp.bd ⟨args,R.hp⟩) S.bI w) (U':=R.GP (S.inp.bd ⟨args,R.hp⟩) S.bI w) hbo.1 hx2 rfl hm (JK hm) (DL hm) ab7 (JJ hm) JI aq0 hm.env
   have hargs:SV.bz (R.named (R.Bt (S.inp.bd ⟨args,R.hp⟩) S.bI w) (R.GP (S.inp.bd ⟨args,R.hp⟩) S.bI w) (S.inp.bd ⟨args,R.hp⟩) (dO S.chunks x.2)) (S.inp.inj x).tm vs:=
    kA (s:=S.inp) (st:=⟨args,R.hp⟩) hbo.1 hx2 rfl hm (JK hm) (DL hm) hr hx1 (SV.pC (by grind [SV.aN]) λi hi hi'=>by simp [SV.rel])
   have hsm:Small (R.named (R.Bt (S.inp.bd ⟨args,R.hp⟩) S.bI w) (R.GP (S.inp.bd ⟨args,R.hp⟩) S.bI w) (S.inp.bd ⟨args,R.hp⟩) (dO S.chunks x.2)) k:=λc ch hc=>by
    obtain ⟨s,y',g1,g2,g3⟩:=dS hx2 (hc:dO S.chunks x.2 c=some ch)
    have:=(List.all_eq_true.1 hk) _ g1
    simp only [aw] at this
    refine ⟨dI this.1,?_⟩
    rw [g3]
    cases s<;>first|rfl|(cases this.2)
   refine (hW _ _ _ _ _ _ hsm rfl hN hargs hwp).mono λen w' hp=> ?_
   rcases hp with ⟨y,v,R₁,rfl,hx1,hm1,hv,hy⟩|⟨y,v,R₁,rfl,hx1,hm1,hv,hy⟩
   ·replace hy:=hK1 _ _ hy
    obtain ⟨R',a1,a2⟩:=ahc hm hx hk hx1 hm1 hv hy hend
    rw [hy.1] at h5
    cases h5
    exact ⟨v,R',rfl,a1,a2⟩
   ·replace hy:=hK2 _ _ hy
    obtain ⟨R',a1,a2⟩:=ahc hm hx hk hx1 hm1 hv hy hend
    rw [hy.1] at h5
    cases h5
    exact ⟨v,R',rfl,a1,a2⟩
include hte hΦ hany
theorem ays {f:FuncId} {fn:Func} {c:Code} (hf:P.funcs[f]? =some fn) (hb:fn.body=some c) (hname:(fn.name== "runtime.NumGoroutine")=false) {S:af} {k:Nat} (hk:S.chunks.all (λc=>Nat.blt c.1 k&& !c.2.iO)=true) {Λ:Lam}
 (hΛ:∀ R,Small R k->rJ P R Λ c) {n:Nat} {pre:S.T->Bool} {F:S.T->OT S.Y}
 (h:∀ x oy,pre x=true->(F x).run=some oy->∃ K Kp,wpf te Φ Λ n fn (S.inp.inj x).tm (S.inp.inj x).hp K Kp/\(∀ v hp,K v hp->oy.1.is oy.2 false v hp)/\∀ v hp,Kp v hp->oy.1.is oy.2 true v hp):aa P f (S.az pre F):=
 arY hf hb hname hk (λR w args vs K Kp hsm hd hm ha hw=>Hj hte hΦ hany hf hb (hΛ R hsm) hd hm ha hw) h
end
end Sx
end
section
namespace Sx
open Go
theorem Lq {b:Bd} {n m:Nat} {o o':Option Nat} (h:dE b m=some o'):dE (SO b n o) m=some o':=by grind [SO,dE,Nat.beq,aY]
theorem FG:∀ {ns:List Nat} {l:List SV} {b:Bd} {m:Nat} {o:Option Nat},dE b m=some o->dE (G2 ns l b) m=some o
 | [],_,_,_,_,h|n::ns,[],_,_,_,h=>h
 |n::ns,y::r,b,m,o,h=>by
  cases y<;>simp [G2]<;>first|omega|exact FG (Lq h)
theorem Ll {s:Sh} {x:SV} {b:Bd} {m:Nat} {o:Option Nat} (h:dE b m=some o):dE (SK s x b) m=some o:=by
 unfold SK
 split<;>first|omega|exact Lq h|exact FG h|(unfold aGp;grind [Lq])
theorem Cb:∀ {l:List Sh} {cs:List SV} {b:Bd} {m:Nat} {o:Option Nat},dE b m=some o->dE (oM l cs b) m=some o
 :=by intro t;induction t<;>grind [oM,Ll]
theorem kp {hp:Hp}:∀ {l:List (Nat×CSh)} {b:Bd} {m:Nat} {o:Option Nat},dE b m=some o->dE (fy hp l b) m=some o
 | [],_,_,_,h=>h
 |(n,s)::r,b,m,o,h=>by
  cases s<;>simp [fy]
  case cells l=>
   refine kp ?_
   grind [Cb]
  all_goals exact kp h
section
variable {d:Nat} {hp hp':Hp} (hg:Grown d hp hp')
include hg
theorem lp:∀ {l:List (Nat×CSh)} {b:Bd},(∀ q ∈ l,∀ c,dE (fy hp l b) q.1=some (some c)->hp c≠none)->fy hp' l b=fy hp l b
 | [],_,_=>rfl
 |(n,s)::r,b,h=>by
  cases s<;>simp only [fy] at h⊢
  case cells l=>
   have e:(match dE b n with|some (some c)=>(match hp' c with|some ⟨_,.cells vs⟩=>oM l vs b|_=>b)|_=>b)=(match dE b n with|some (some c)=>(match hp c with|some ⟨_,.cells vs⟩=>oM l vs b|_=>b)|_=>b):=by
    split
    ·rename_i c hc
     have h1:=h (n,.cells l) (by simp) c (kp (by
      grind [Cb]))
     cases hq:hp c with
     |none=>grind
     |some ch=>rw [hg.mB _ _ hq]
    rfl
   exact (congrArg (fy hp' r) e).trans (lp λq hq c hc=>h q (by grind) c hc)
  all_goals exact lp (by grind)
theorem Jy {bd:Bd} {n c e:Nat} (h:DF bd hp n c e=true):DF bd hp' n c e=true:=by
 unfold DF at h⊢
 split at h
 ·rw [aw] at h
  have h2:=h.2
  split at h2
  ·rename_i ch hch
   rw [hg.mB _ _ hch]
   grind
  grind
 omega
theorem Cc {bd:Bd}:∀ {ns:List Nat} {l:List SV},zS bd hp ns l=true->zS bd hp' ns l=true
 | [],[],_=>rfl
 | [],_::_,h|n::ns,[],h=>by cases h
 |n::ns,y::r,h=>by
  cases y<;>simp only [zS] at h⊢ <;>try grind
  simp at h⊢
  exact ⟨⟨⟨Jy hg h.1.1.1,h.1.1.2⟩,h.1.2⟩,Cc h.2⟩
theorem Jw {bd:Bd} {s:Sh} {cs:List SV} (h:lQ bd hp s cs=true):lQ bd hp' s cs=true:=by
 unfold lQ at h⊢
 grind [Jy,Cc]
theorem SS {ok:Nat->Bool} {t:Ty} {x:SV} {ys:List t.T} (h:uj ok t hp x=some ys):uj ok t hp' x=some ys:=by
 have key:∀ {c:Nat} {f:Option Ch->Option (List t.T)},f none=none->f (hp c)=some ys->f (hp' c)=some ys:=λ{c f} h0 h=>by
  cases hq:hp c with
  |none=>grind
  |some ch=>rw [hg.mB _ _ hq,<-hq];omega
 cases x<;>simp [uj] at h⊢ <;>try omega
 case own c e=>exact key (c:=c) (f:=λo=>match o with|some ⟨ep,.row t' xs⟩=>cond (Nat.beq ep e&&ok c) (cd t t' xs) none|some ⟨ep,.frz t' xs⟩=>cond (Nat.beq ep e) (cd t t' xs) none|_=>none) rfl h
 case clip c e=>exact key (c:=c) (f:=λo=>match o with|some ⟨ep,.row t' xs⟩=>cond (Nat.beq ep e&&ok c) (cd t t' xs) none|some ⟨ep,.frz t' xs⟩=>cond (Nat.beq ep e) (cd t t' xs) none|_=>none) rfl h
 case part c e off len=>exact key (c:=c) (f:=λo=>match o with|some ⟨ep,.row t' xs⟩=>cond (Nat.beq ep e&&ok c) ((cd t t' xs).map λl=>(l.drop off).take len) none|some ⟨ep,.frz t' xs⟩=>cond (Nat.beq ep e) ((cd t t' xs).map λl=>(l.drop off).take len) none|_=>none) rfl h
theorem mu {ok:Nat->Bool}:∀ {t:Ty} {cs:List SV} {x:t.T},kE ok hp t cs=some x->kE ok hp' t cs=some x
 |.bool,_,_,h|.u64,_,_,h|.u8,_,_,h|.int,_,_,h|.str,_,_,h|.elem,_,_,h=>h
 |.prod a b,cs,x,h=>by
  obtain ⟨h1,h2⟩:=aW h
  simp [kE,mu h1,mu h2,sF]
 |.arr n t,cs,x,h=>by
  simp only [kE] at h⊢
  split at h
  ·rename_i hl
   rw [if_pos hl]
   exact lZ (λ_ _=>mu) h
  grind
 |.list t,cs,x,h=>by
  simp only [kE] at h⊢
  split at h
  ·rename_i hp0
   rw [if_pos hp0]
   obtain ⟨y,rfl,hy⟩:=oj h
   exact SS hg hy
  grind
omit hg in
theorem IH {a b:Bool} {x:Unit} (hab:a=true->b=true) (h:II a=some x):II b=some x:=by
 rw [hab (ib h)];rfl
theorem E9 {bd:Bd} {ok:Nat->Bool} {s:Sh} {cs:List SV} {x:s.T} (h:sA bd ok hp s cs=some x):sA bd ok hp' s cs=some x:=by
 cases s<;>simp [sA] at h⊢
 case val b t=>exact mu hg h
 case mix a n b=>
  obtain ⟨h1,h2⟩:=aW h
  grind [aW,mu,IH,Jw]
 case ife t=>grind
 all_goals exact IH (Jw hg) h
theorem Qn {bd:Bd} {ok:Nat->Bool} {s:Sh} {y:SV} {x:s.T} (h:Da bd ok hp s y=some x):Da bd ok hp' s y=some x:=by grind [Da,E9]
theorem wQ {bd:Bd} {ok:Nat->Bool}:∀ {l:List Sh} {cs:List SV} {x:ShT l},lD bd ok hp l cs=some x->lD bd ok hp' l cs=some x
 | [],[],_,h=>h
 | [],_::_,_,h=>by cases h
 |s::r,cs,x,h=>by
  obtain ⟨h1,h2⟩:=aW (show sF (sA bd ok hp s (cs.take s.size)) (lD bd ok hp r (cs.drop s.size))=some x from h)
  show sF (sA bd ok hp' s (cs.take s.size)) (lD bd ok hp' r (cs.drop s.size))=some x
  rw [E9 hg h1,wQ h2]
  rfl
theorem wO {bd:Bd} {ok:Nat->Bool} {tm:List SV}:∀ {l:List (Nat×Sh)} {x:SlT l},uW bd ok hp tm l=some x->uW bd ok hp' tm l=some x
 | [],_,h=>h
 |c::r,x,h=>by
  obtain ⟨h1,h2⟩:=aW h
  simp only [uW,Qn hg h1,wO h2]
  rfl
theorem Mh {bd:Bd} {ok:Nat->Bool} {s:CSh} {b:Chunk} {x:s.T} (h:je bd ok hp s b=some x):je bd ok hp' s b=some x:=by
 cases s<;>cases b<;>simp [je] at h⊢ <;>first|omega|exact wQ hg h
theorem UT {bd:Bd} {ok:Nat->Bool} {n:Nat} {s:CSh} {x:s.T} (h:kB bd ok hp n s=some x):kB bd ok hp' n s=some x:=by
 unfold kB at h⊢
 split at h
 ·split at h
  ·rename_i ch hch
   rw [hg.mB _ _ hch]
   grind [Mh]
  grind
 ·omega
 omega
theorem sB {bd:Bd} {ok:Nat->Bool}:∀ {l:List (Nat×CSh)} {x:Gh l},fk bd ok hp l=some x->fk bd ok hp' l=some x
 | [],_,h=>h
 |c::r,x,h=>by
  obtain ⟨h1,h2⟩:=aW h
  simp [fk,UT hg h1,sB h2]
  rfl
omit hg in
theorem pF {bd:Bd} {ok:Nat->Bool}:∀ {l:List (Nat×CSh)} {x:Gh l},fk bd ok hp l=some x->∀ q ∈ l,∀ c,dE bd q.1=some (some c)->hp c≠none
 | [],_,_,_,hq,_,_=>by cases hq
 |c::r,x,h,q,hq,c',hb=>by
  obtain ⟨h1,h2⟩:=aW h
  rcases List.mem_cons.1 hq with he|he
  ·subst he
   unfold kB at h1
   rw [hb] at h1
   simp only at h1
   intro hn
   rw [hn] at h1
   cases h1
  ·exact pF h2 q he c' hb
theorem apx {s:Shape} (hfx:s.fixed=0) {tm:List SV} {x:s.T} (h:s.prj ⟨tm,hp⟩=some x):s.prj ⟨tm,hp'⟩=some x/\s.bd ⟨tm,hp'⟩=s.bd ⟨tm,hp⟩:=by
 unfold Shape.prj at h⊢
 dsimp only at h⊢
 cases hb:s.Lr ⟨tm,hp⟩ (s.bd ⟨tm,hp⟩)&&Nat.beq tm.length s.n
 ·grind
 ·rw [hb] at h
  obtain ⟨h1,h2⟩:=aW h
  have e:s.bd ⟨tm,hp'⟩=s.bd ⟨tm,hp⟩:=lp hg (pF h2)
  grind [Shape.Lr,wO,sB]
theorem Oi {c:Nat} (h:hp c≠none):Zq hp' c=Zq hp c:=by
 unfold Zq
 cases hq:hp c with
 |none=>grind
 |some ch=>rw [hg.mB _ _ hq]
theorem As {bd:Bd} {fixed:Nat}:∀ {l:List (Nat×CSh)},(∀ q ∈ l,∀ c,dE bd q.1=some (some c)->hp c≠none)->dM bd hp' fixed l=dM bd hp fixed l
 | [],_=>rfl
 |c::r,h=>by
  have ih:=As (bd:=bd) (fixed:=fixed) (l:=r) (by grind)
  grind [dM,Oi]
theorem ayt {S:af} {pre:S.T->Bool} {F:S.T->OT S.Y} {args:List SV} {out:Out} (h:((S.az pre F).f d args hp).run=some out):((S.az pre F).f d args hp').run=some out:=by
 simp only [af.az] at h⊢
 split at h
 ·cases h
 ·rename_i x hx
  obtain ⟨e1,e2⟩:=apx hg (s:=S.inp) rfl hx
  rw [e1]
  simp only
  rw [e2]
  obtain ⟨h1,h2⟩:=OT.aE h
  rw [h1]
  obtain ⟨oy,h3,h4⟩:=OT.run_bind h2
  have hold:∀ q ∈ S.chunks,∀ c,dE (S.inp.bd ⟨args,hp⟩) q.1=some (some c)->hp c≠none:=by
   have hx':=hx
   unfold Shape.prj at hx'
   dsimp only at hx'
   cases hb:S.inp.Lr ⟨args,hp⟩ (S.inp.bd ⟨args,hp⟩)&&Nat.beq args.length S.inp.n
   ·rw [hb] at hx';cases hx'
   ·rw [hb] at hx'
    obtain ⟨_,h2⟩:=aW hx'
    exact pF h2
  have hbok:∀ p ∈ S.inp.bd ⟨args,hp⟩,∃ q ∈ S.chunks,q.1=p.1:=by
   have hx':=hx
   unfold Shape.prj at hx'
   dsimp only at hx'
   cases hb:S.inp.Lr ⟨args,hp⟩ (S.inp.bd ⟨args,hp⟩)&&Nat.beq args.length S.inp.n
   ·rw [hb] at hx';cases hx'
   ·rw [aw] at hb
    have:=hb.1
    unfold Shape.Lr at this
    simp only [aw,fX,List.any_eq_true] at this
    intro p hp
    obtain ⟨q,hq,he⟩:=this.1.2 p hp
    exact ⟨q,hq,aY he⟩
  have hepN:∀ n c,dE (S.inp.bd ⟨args,hp⟩) n=some (some c)->Zq hp' c=Zq hp c:=λn c hc=>by
   obtain ⟨q,hq,he⟩:=hbok _ (oO hc)
   grind [Oi]
  unfold af.emit at h4
  dsimp only at h4
  obtain ⟨hend,h5⟩:=OT.aE h4
  --the names
  have hfr:fresh hp' d=fresh hp d:=j5 hg
  have hnm:∀ n,S.fixed<=n\/(∃ c,dE (S.inp.bd ⟨args,hp⟩) n=some (some c))->S.nm (S.inp.bd ⟨args,hp⟩) hp' (fresh hp d) n=S.nm (S.inp.bd ⟨args,hp⟩) hp (fresh hp d) n:=λn hn=>by
   unfold af.nm
   cases hb:Nat.blt n S.fixed
   ·rfl
   ·rcases hn with hn|⟨c,hn⟩
    ·have:=dI hb;omega
    grind [nameOf]
  have hnmall:S.nm (S.inp.bd ⟨args,hp⟩) hp' (fresh hp d)=S.nm (S.inp.bd ⟨args,hp⟩) hp (fresh hp d):=by
   funext n
   rcases Nat.lt_or_ge n S.fixed with hn|hn
   ·refine hnm n (.inr ?_)
    have he:=hend
    unfold af.m7 at he
    simp at he
    grind
   ·exact hnm n (.inl hn)
  have hend':S.m7 (S.inp.bd ⟨args,hp⟩) hp' (fresh hp d) oy.1=true:=by
   have he:=hend
   unfold af.m7 at he⊢
   simp only [aw] at he⊢
   refine ⟨he.1,he.2.1,he.2.2.1,?_⟩
   have h6:=he.2.2.2
   simp only [fX,aw,Bool.or_eq_true] at h6⊢
   intro q hq
   refine ⟨(h6 q hq).1,(h6 q hq).2.imp_right λh7=>⟨h7.1,?_⟩⟩
   have h8:=h7.2
   have hlt:=dI h7.1
   cases hz:hp (fresh hp d+(q.1-S.fixed)) with
   |some ch=>rw [hz] at h8;cases h8
   |none=>
    rw [hg.free _ ?_ hz]
    ·rfl
    ·obtain ⟨k,hk1,hk2⟩:∃ k,k<=4000/\fresh hp d=(d+1)*4096+k:=by
      have:∀ (n k:Nat),n+k<=4000->∃ j,j<=4000/\fu hp d n k=(d+1)*4096+j:=by
       intro n
       induction n with
       |zero=>intro k hk;exact ⟨k,by omega,rfl⟩
       |succ n ih=>
        intro k hk
        simp only [fu]
        split
        ·exact ⟨k,by omega,rfl⟩
        ·exact ih (k+1) (by omega)
      exact this 4000 0 (by omega)
     rw [hk2]
     unfold lU
     omega
  have hem:(S.emit (S.inp.bd ⟨args,hp⟩) d hp' oy.1 oy.2).run=some out:=by
   grind [af.emit,As]
  have hbind:∀ {α β:Type} (t:OT α) (f:α->OT β) (a:α) (b:β),t.run=some a->(f a).run=some b->(t.bind f).run=some b:=by
   intro α β t f a b h1 h2
   induction t with
   |ok a'=>cases h1;exact h2
   |br c u v hu hv=>
    cases c
    ·exact hv h1
    ·exact hu h1
   |fail=>cases h1
  exact hbind (F x) _ oy out h3 hem
end
theorem av {S:af} {pre:S.T->Bool} {F:S.T->OT S.Y}:ax (S.az pre F):=λ_ _ _ _ _ hg h=>ayt hg h
end Sx
end
section
namespace Sx
open Go
def OT.wpR {α:Type} (t:OT α) (K:α->Prop):Prop:=
 OT.rec (motive:=λ_=>Prop) (λa=>K a) (λb _ _ x y=>Bool.rec (motive:=λ_=>Prop) y x b) False t
theorem OT.ES {α:Type} (t:OT α) (K:α->Prop):t.wpR K=t.wp K:=by
 induction t with
 |ok b=>rfl
 |br b x y hx hy=>
  cases b
  ·exact hy
  ·exact hx
 |fail=>rfl
theorem OT.iV {α:Type} {t:OT α} {a:α} {K:α->Prop} (h:t.run=some a) (hk:K a):t.wp K:=by
 induction t with
 |ok b=>cases h;exact hk
 |br b x y hx hy=>
  cases b
  ·exact hy h
  ·exact hx h
 |fail=>cases h
def mK (fn:Func):Code:=fn.body.getD .skip
abbrev aZ:=Sigma λp:SE×Shape=>p.2.T
def PW (sh:Shape) (xs:SE->Option Shape) (Q:Sum sh.T aZ->Prop) (e:SE) (st:St):Prop:=match e with
 |.normal=>sh.on st λs=>Q (.inl s)
 |e=>match xs e with
  |none=>False
  |some s=>s.on st λx=>Q (.inr ⟨(e,s),x⟩)
def cU {σ ε:Type} (T:σ->OT (Sum σ ε)):Nat->σ->Option ε
 |0,_=>none
 |n+1,s=>match (T s).run with
  |some (.inl s')=>cU T n s'
  |some (.inr e)=>some e
  |none=>none
def aqB (sh:Shape) (id:Nat) (ok:sh.T->Bool) (f:sh.T->OT aZ) (st:St) (K:SE->St->Prop):Prop:=
 sh.on st λs=>cond (ok s) ((f s).wp λe=>K (asu id e.1.1) (e.1.2.inj e.2)) False
section
variable {P:Program} {te:TE} {Φ:Env} (hte:kq P te) (hΦ:oa P Φ) (hany:Gi P te Φ)
include hte hΦ hany
theorem axt {R₀:Ctx} {sh:Shape} (h0:Small R₀ sh.fixed) {xs:SE->Option Shape} (hxs:∀ e s,xs e=some s->Small R₀ s.fixed) (hpan:∀ v s,xs (.pan v)=some s->∃ t x,v=.iface t (.agg [.int x])) {Λ:Lam} {body:Code} (hΛ:rJ P R₀ Λ body)
 {id n:Nat} {T:sh.T->OT (Sum sh.T aZ)} (hT:∀ s Q,wps te Φ Λ n body (sh.inj s) (PW sh xs Q)=(T s).wpR Q):
 Aj P R₀ (.block id (.loop body)) λst K=>sh.on st λs=>∃ m e,cU T m s=some e/\K (asu id e.1.1) (e.1.2.inj e.2):=by
 intro R st a w K Q hx hst hl hK
 obtain ⟨s,R',⟨m,e,hr,hk⟩,hx',hst'⟩:=Shape.ym h0 hx hst hl
 refine wp_block (ER ?_)
 clear hl hst hx
 induction m generalizing s R' a w with
 |zero=>cases hr
 |succ m ih=>
  simp only [cU] at hr
  cases ht:(T s).run with
  |none=>rw [ht] at hr;cases hr
  |some o=>
   rw [ht] at hr
   have hw:wps te Φ Λ n body (sh.inj s) (PW sh xs (λz=>z=o)):=by
    rw [hT,OT.ES];exact OT.iV ht rfl
   refine Jm (rN (R₀:=R₀) hte hΦ hany hΛ hx' hst' hw ⟨?_,?_,?_,?_⟩)
   ·intro R1 st1 a1 w1 hx1 hst1 hk1
    obtain ⟨s',R2,g1,g4,g5⟩:=Shape.ym h0 hx1 hst1 (hk1:sh.on st1 _)
    subst g1
    exact ih a1 w1 s' R2 hr g4 g5
   ·intro R1 st1 a1 w1 hx1 hst1 hk1
    simp only [PW] at hk1
    split at hk1
    ·exact hk1.elim
    ·rename_i sh' he
     obtain ⟨x,R2,g1,g2,g3⟩:=Shape.ym (hxs _ sh' he) hx1 hst1 hk1
     subst g1
     cases hr
     exact hK.ret R2 _ a1 w1 g2 g3 hk
   ·intro R1 st1 a1 w1 j hx1 hst1 hk1
    simp only [PW] at hk1
    split at hk1
    ·exact hk1.elim
    ·rename_i sh' he
     obtain ⟨x,R2,g1,g2,g3⟩:=Shape.ym (hxs _ sh' he) hx1 hst1 hk1
     subst g1
     cases hr
     simp only [asu] at hk
     simp only [Exit.inBlock]
     by_cases e:j=id
     ·subst e
      rw [Nat.beq_refl,aK] at hk
      simp only [if_true]
      exact hK.normal R2 _ a1 w1 g2 g3 hk
     ·have hb:Nat.beq j id=false:=by
       cases hq:Nat.beq j id
       ·rfl
       ·exact absurd (aY hq) e
      rw [hb,aT] at hk
      simp only [e,if_false]
      exact hK.exit R2 _ a1 w1 j g2 g3 hk
   ·intro R1 st1 a1 w1 sv v hx1 hst1 hv hk1
    simp only [PW] at hk1
    split at hk1
    ·exact hk1.elim
    ·rename_i sh' he
     obtain ⟨x,R2,g1,g2,g3⟩:=Shape.ym (hxs _ sh' he) hx1 hst1 hk1
     subst g1
     cases hr
     obtain ⟨t,z,rfl⟩:=hpan _ _ he
     exact hK.pan R2 _ a1 w1 _ v g2 g3 (adg hv) hk
theorem aDF {R₀:Ctx} {sh:Shape} (h0:Small R₀ sh.fixed) {xs:SE->Option Shape} (hxs:∀ e s,xs e=some s->Small R₀ s.fixed) (hpan:∀ v s,xs (.pan v)=some s->∃ t x,v=.iface t (.agg [.int x])) {Λ:Lam} {body:Code} (hΛ:rJ P R₀ Λ body)
 {id n:Nat} {T:sh.T->OT (Sum sh.T aZ)} (hT:∀ s Q,wps te Φ Λ n body (sh.inj s) (PW sh xs Q)=(T s).wpR Q) {ok:sh.T->Bool} {f:sh.T->OT aZ}
 (hf:∀ s,ok s=true->∃ m e,cU T m s=some e/\(f s).run=some e):Aj P R₀ (.block id (.loop body)) (aqB sh id ok f):=by
 intro R st a w K Q hx hst hl hK
 refine axt hte hΦ hany h0 hxs hpan hΛ hT (id:=id) R st a w K Q hx hst ?_ hK
 unfold aqB at hl
 unfold Shape.on at hl⊢
 split at hl
 ·rename_i s hs
  cases ho:ok s
  ·rw [ho] at hl;exact hl.elim
  ·rw [ho] at hl
   obtain ⟨m,e,h1,h2⟩:=hf s ho
   obtain ⟨e',h3,h4⟩:=OT.Hk hl
   rw [h2] at h3
   cases h3
   rw [hs]
   exact ⟨m,e,h1,h4⟩
 ·exact hl.elim
def fnK (S:af) (sel:SV->Option aL) (Q:S.Y->Prop) (v:SV) (hp:Hp):Prop:=match sel v with
 |some o=>match (o.shape S.fixed).prj ⟨ape o.rs.length v,hp⟩ with
  |some y=>Q ⟨o,y⟩
  |none=>False
 |none=>False
def acM (S:af):List aL->(S.Y->Prop)->SV->Hp->Prop
 | [],_,_,_=>False
 |o::r,Q,v,hp=>match (o.shape S.fixed).prj ⟨ape o.rs.length v,hp⟩ with
  |some y=>Q ⟨o,y⟩
  |none=>acM S r Q v hp
omit hte hΦ hany in
theorem tH {S:af} {Q:S.Y->Prop} {v:SV} {hp:Hp}:∀ {outs:List aL},acM S outs Q v hp->∃ o ∈ outs,∃ y,(o.shape S.fixed).prj ⟨ape o.rs.length v,hp⟩=some y/\Q ⟨o,y⟩
 | [],h=>h.elim
 |o::r,h=>by
  simp only [acM] at h
  split at h
  ·rename_i y hy
   exact ⟨o,List.mem_cons_self ..,y,hy,h⟩
  ·obtain ⟨o',h1,h2⟩:=tH h
   exact ⟨o',List.mem_cons_of_mem _ h1,h2⟩
theorem ayq {f:FuncId} {fn:Func} {c:Code} (hf:P.funcs[f]? =some fn) (hb:fn.body=some c) (hname:(fn.name== "runtime.NumGoroutine")=false) {S:af} {k:Nat} (hk:S.chunks.all (λc=>Nat.blt c.1 k&& !c.2.iO)=true) {Λ:Lam}
 (hΛ:∀ R,Small R k->rJ P R Λ c) {n:Nat} {outs:List aL} (hsel:(outs.all λo=> !o.pan)=true) {pre:S.T->Bool} {F T:S.T->OT S.Y}
 (h:∀ x Q,wpf te Φ Λ n fn (S.inp.inj x).tm (S.inp.inj x).hp (acM S outs Q) (λ_ _=>False)=(T x).wpR Q)
 (hF:∀ x oy,pre x=true->(F x).run=some oy->(T x).run=some oy):aa P f (S.az pre F):=by
 refine ays hte hΦ hany hf hb hname hk hΛ (n:=n) λx oy hp hr=>⟨acM S outs (λz=>z=oy),λ_ _=>False,?_,λv hp hq=> ?_,λ_ _ hq=>hq.elim⟩
 ·rw [h,OT.ES];exact OT.iV (hF x oy hp hr) rfl
 ·obtain ⟨o,ho,y,hy,hQ⟩:=tH hq
  subst hQ
  exact ⟨by have:=List.all_eq_true.1 hsel o ho;simpa using this,hy⟩
end
end Sx
end
section
namespace Sx
open Go
def zeroCells:Ty->List Value
 |.bool=> [.bool false]
 |.u64=> [eD 0]
 |.u8=> [vu8 0]
 |.int=> [.int .i64 0]
 |.str=> [.string ⟨#[]⟩]
 |.elem=> [eD 0,eD 0,eD 0,eD 0]
 |.prod a b=>zeroCells a++zeroCells b
 |.arr n t=>(List.replicate n (zeroCells t)).flatten
 |.list _=> [.slice none 0 0]
theorem cP:∀ t:Ty,(zeroCells t).length=t.size
 |.bool=>rfl
 |.u64=>rfl
 |.u8=>rfl
 |.int=>rfl
 |.str=>rfl
 |.elem=>rfl
 |.prod a b=>by simp only [zeroCells,bK,cP a,cP b,Ty.size]
 |.arr n t=>by simp [zeroCells,cP t,Ty.size]
 |.list _=>rfl
theorem Kr {c:List Value} {m:Nat} (hc:c.length=m):∀ (n i:Nat),i<n->seg (List.replicate n c).flatten (i*m) m=c
 |0,_,h=>by omega
 |n+1,0,_=>by
  simp only [seg,List.replicate_succ,List.flatten_cons,Nat.zero_mul,List.drop_zero,List.take_append,hc,Nat.sub_self,List.take_zero,List.append_nil]
  rw [<-hc,List.take_length]
 |n+1,i+1,h=>by
  have ih:=Kr hc n i (by omega)
  simp only [seg] at ih⊢
  rw [List.replicate_succ,List.flatten_cons]
  have:(i+1)*m=c.length+i*m:=by rw [hc,Nat.add_mul];omega
  rw [this,List.drop_append]
  simp only [Nat.add_sub_cancel_left]
  rw [List.drop_eq_nil_of_le (by omega),List.nil_append,ih]
theorem Gv {F:Nat->Option Obj}:∀ t:Ty,Rep F t t.d (zeroCells t)
 |.bool=>rfl
 |.u64=>rfl
 |.u8=>rfl
 |.int=>⟨rfl,by decide⟩
 |.str=>⟨rfl,by simp [Ty.d]⟩
 |.elem=>rfl
 |.prod a b=>by
  refine ⟨by simp only [zeroCells,bK,cP],?_,?_⟩
  ·have:(zeroCells (.prod a b)).take a.size=zeroCells a:=by
    simp only [zeroCells]
    rw [<-cP a,List.take_left]
   rw [this];exact Gv a
  ·have:(zeroCells (.prod a b)).drop a.size=zeroCells b:=by
    simp only [zeroCells]
    rw [<-cP a,List.drop_left]
   rw [this];exact Gv b
 |.arr n t=>by
  refine ⟨cP _,by simp [Ty.d],λi hi=> ?_⟩
  have h1:(Ty.d (.arr n t)).getD i t.d=t.d:=by
   simp [Ty.d,fP,List.getElem?_replicate,hi]
  rw [h1]
  simp only [zeroCells]
  rw [Kr (cP t) n i hi]
  exact Gv t
 |.list t=>⟨by simp [Ty.d],none,0,rfl,by simp [Ty.d],.inl rfl⟩
def aEo (P:Program) (T:TypeId) (d:TypeDesc):TD->Bool
 |.struct fs=>match d with
  |.struct fields=>decide (fields.toList.map (λf=>(f.offset,f.type))=fs)&&fields.toList.all (λf=> !decide (f.name= "_"))&& !P.stoodInHeld T&&
   (fields.toList.mapM (λf=>(P.info? f.type).map λi=>(f.offset,i.size))).isSome
  |_=>false
 |.array n e=>match d with
  |.array n' e'=>Nat.beq n n'&&Nat.beq e e'
  |_=>false
 |.slice e=>match d with
  |.slice e'=>Nat.beq e e'
  |_=>false
 |.int k=>match d with
  |.int k'=>decide (k'=k)
  |_=>false
 |.bool=>match d with
  |.bool=>true
  |_=>false
 |.str=>match d with
  |.string=>true
  |_=>false
 |.ptr ms=>match d with
  |.pointer _=>match P.info? T with
   |some i=>ms.all λnf=>match i.methods.find? (λq=>q.name==nf.1) with
    |some m=>m.path.toList.isEmpty&&(match m.func with
     |some (f,b)=>b&&Nat.beq f nf.2
     |none=>false)
    |none=>false
   |none=>false
  |_=>false
 |.iface=>match d with
  |.interface _=>true
  |_=>false
 |.other=>match d with
  |.struct _=>false
  |.array .. =>false
  |_=>true
theorem aCx {P:Program} {T:TypeId} {ti:TI} (h1:(P.info? T).isSome=true) (h4:((P.info? T).get h1).zero.isSome=true) (h10:(P.underlying T).isSome=true)
 (hs:Nat.beq ((P.info? T).get h1).size ti.size=true) (hb:Nat.beq ((P.info? T).get h1).bytes ti.bytes=true)
 (hz:(((P.info? T).get h1).zero.get h4).cells.toList.map Ff=ti.zero) (hc:((((P.info? T).get h1).zero.get h4).cells.toList.all Value.oneCell')=true)
 (hn:Nat.beq (((P.info? T).get h1).zero.get h4).cells.size ti.size=true) (h8:Nat.ble ti.size 16777216=true) (h9:(ti.desc.agg||Nat.beq ti.size 1)=true)
 (hd:aEo P T ((P.underlying T).get h10) ti.desc=true)
 (ht:match ti.ty with
  |none=>True
  |some t=>Nat.beq t.size ti.size=true/\(((P.info? T).get h1).zero.get h4).cells.toList=zeroCells t/\(!ti.desc.agg|| !P.eqGuardType P.depth T)=true):fe P T ti:=by
 have e1:P.info? T=some ((P.info? T).get h1):=(Option.some_get h1).symm
 have e4:((P.info? T).get h1).zero=some (((P.info? T).get h1).zero.get h4):=(Option.some_get h4).symm
 refine ⟨⟨_,_,e1,aY hs,aY hb,e4,hz,aY hn,λu hu=>List.all_eq_true.1 hc u hu⟩,Nat.le_of_ble_eq_true h8,λha=> ?_,⟨_,(Option.some_get h10).symm,?_⟩,λt hty=> ?_⟩
 ·rw [ha,Bool.false_or] at h9
  exact aY h9
 ·generalize (P.underlying T).get h10=d at hd
  cases hdd:ti.desc<;>rw [hdd] at hd<;>simp only [aEo] at hd<;>(try dsimp only)
  case struct fs=>
   split at hd
   ·rename_i fields
    simp only [aw,decide_eq_true_eq,fX,Bool.not_eq_true',decide_eq_false_iff_not] at hd
    exact ⟨fields,rfl,hd.1.1.1,hd.1.1.2,hd.1.2,hd.2⟩
   ·cases hd
  case array n e=>
   split at hd
   ·rw [aw] at hd
    rw [aY hd.1,aY hd.2]
   ·cases hd
  case slice e=>
   split at hd
   ·rw [aY hd]
   ·cases hd
  case int k=>
   split at hd
   ·rw [bn hd]
   ·cases hd
  case bool=>
   split at hd
   ·rfl
   ·cases hd
  case str=>
   split at hd
   ·rfl
   ·cases hd
  case ptr ms=>
   split at hd
   ·refine ⟨⟨_,rfl⟩,?_⟩
    split at hd
    ·rename_i i hi
     intro nf hnf
     have hq:=List.all_eq_true.1 hd nf hnf
     split at hq
     ·rename_i m hm
      rw [aw] at hq
      refine ⟨i,m,hi,hm,?_,?_⟩
      ·apply Array.ext'
       simpa using hq.1
      ·have h2:=hq.2
       split at h2
       ·rename_i f b hf
        rw [aw] at h2
        rw [hf,aY h2.2,h2.1]
       ·cases h2
     ·cases hq
    ·cases hd
   ·cases hd
  case iface=>
   split at hd
   ·exact ⟨_,rfl⟩
   ·cases hd
  case other=>
   cases d<;>first|trivial|(cases hd;done)
 ·rw [hty] at ht
  obtain ⟨t1,t2,t3⟩:=ht
  refine ⟨aY t1,λF z hz'=> ?_,λha=> ?_⟩
  ·rw [e1] at hz'
   simp only [Option.bind_some] at hz'
   rw [e4] at hz'
   cases hz'
   rw [t2]
   exact Gv t
  ·rw [ha,Bool.not_true,Bool.false_or,Bool.not_eq_true'] at t3
   exact t3
def aFr:TE:=λ_=>none
def bt (T:TypeId) (ti:TI) (te:TE):TE:=λx=>cond (Nat.beq x T) (some ti) (te x)
theorem awu {P:Program}:kq P aFr:=λ_ _ h=>by cases h
theorem aG {P:Program} {T:TypeId} {ti:TI} {te:TE} (h:fe P T ti) (ht:kq P te):kq P (bt T ti te):=λx t hx=>by
 unfold bt at hx
 cases hb:Nat.beq x T
 ·rw [hb] at hx;exact ht x t hx
 ·rw [hb] at hx
  cases hx
  rw [aY hb]
  exact h
def ahs:Env:=λ_=>none
def aq (f:FuncId) (s:bx) (Φ:Env):Env:=λx=>cond (Nat.beq x f) (some s) (Φ x)
theorem Xj {P:Program}:oa P ahs:=λ_ _ h=>by cases h
theorem Oj {P:Program} {f:FuncId} {s:bx} {Φ:Env} (h:aa P f s) (hΦ:oa P Φ):oa P (aq f s Φ):=λx t hx=>by
 unfold aq at hx
 cases hb:Nat.beq x f
 ·rw [hb] at hx;exact hΦ x t hx
 ·rw [hb] at hx
  cases hx
  rw [aY hb]
  exact h
theorem KE:ob ahs:=λ_ _ h=>by cases h
theorem FA {f:FuncId} {s:bx} {Φ:Env} (h:ax s) (hΦ:ob Φ):ob (aq f s Φ):=λx t hx=>by
 unfold aq at hx
 cases hb:Nat.beq x f
 ·rw [hb] at hx;exact hΦ x t hx
 ·rw [hb] at hx
  cases hx
  exact h
end Sx
end
section
namespace Sx
open Go
def axC (t:TypeId):SV->Bool
 |.iface t' (.agg [.int _])=>Nat.beq t t'
 |_=>false
def avy (l:List (Nat×Shape)) (r:Option Shape) (p:Option (TypeId×Shape):=none):SE->Option Shape
 |.exit n=>(l.find? λp=>Nat.beq p.1 n).map (·.2)
 |.ret=>r
 |.pan v=>match p with
  |some q=>cond (axC q.1 v) (some q.2) none
  |none=>none
 |.normal=>none
theorem ajz {l:List (Nat×Shape)} {r:Option Shape} {p:Option (TypeId×Shape)} {k:Nat} {R:Ctx} (hl:((l.all λp=>Nat.beq p.2.fixed k)&&(r.all λs=>Nat.beq s.fixed k)&&p.all λq=>Nat.beq q.2.fixed k)=true) (hR:Small R k):
 ∀ e s,avy l r p e=some s->Small R s.fixed:=by
 intro e s h
 rw [aw,aw] at hl
 obtain ⟨⟨hl,hr⟩,hp⟩:=hl
 cases e with
 |exit n=>
  simp only [avy] at h
  cases hf:l.find? λp=>Nat.beq p.1 n with
  |none=>rw [hf] at h;cases h
  |some p=>
   rw [hf] at h
   cases h
   rw [aY (List.all_eq_true.1 hl p (List.mem_of_find?_eq_some hf))]
   exact hR
 |ret=>
  simp only [avy] at h
  subst h
  have e:s.fixed=k:=aY (by simpa using hr)
  rw [e]
  exact hR
 |normal=>cases h
 |pan v=>
  simp only [avy] at h
  split at h
  ·rename_i q
   cases hq:axC q.1 v
   ·rw [hq] at h;cases h
   ·rw [hq] at h
    cases h
    have e:q.2.fixed=k:=aY (by simpa using hp)
    rw [e]
    exact hR
  ·cases h
theorem avx {l:List (Nat×Shape)} {r:Option Shape} {p:Option (TypeId×Shape)} (v:SV) (s:Shape) (h:avy l r p (.pan v)=some s):∃ t x,v=.iface t (.agg [.int x]):=by
 simp only [avy] at h
 split at h
 ·rename_i q
  cases hq:axC q.1 v
  ·rw [hq] at h;cases h
  ·unfold axC at hq
   split at hq
   ·exact ⟨_,_,rfl⟩
   ·cases hq
 ·cases h
section
variable {σ ε:Type} {T:σ->OT (Sum σ ε)}
theorem bL {s s':σ} {m:Nat} {e:ε} (h:(T s).run=some (.inl s')) (h2:cU T m s'=some e):cU T (m+1) s=some e:=by
 simp only [cU,h];exact h2
theorem aV {s:σ} {e:ε} (h:(T s).run=some (.inr e)):cU T 1 s=some e:=by
 simp only [cU,h]
theorem Jj (st:Nat->σ) (n:Nat) {e:ε} (h:∀ k,k<n->(T (st k)).run=some (.inl (st (k+1)))) (hn:(T (st n)).run=some (.inr e)):∀ j k,k+j=n->cU T (j+1) (st k)=some e
 |0,k,hk=>by
  have:k=n:=by omega
  subst this
  exact aV hn
 |j+1,k,hk=>bL (h k (by omega)) (Jj st n h hn j (k+1) (by omega))
theorem Jk (st:Nat->σ) (n:Nat) {e:ε} (h:∀ k,k<n->(T (st k)).run=some (.inl (st (k+1)))) (hn:(T (st n)).run=some (.inr e)) (k:Nat) (hk:k<=n):∃ m,cU T m (st k)=some e:=
 ⟨n-k+1,Jj st n h hn (n-k) k (by omega)⟩
def upto {β:Type} (f:Nat->β->β) (b:β):Nat->β
 |0=>b
 |k+1=>f k (upto f b k)
theorem bf {β:Type} (mk:Nat->β->σ) (step:Nat->β->β) (fin:β->ε) (n:Nat) (b0:β) (P:Nat->β->Prop) (h0:P 0 b0)
 (hs:∀ k b,k<n->P k b->(T (mk k b)).run=some (.inl (mk (k+1) (step k b)))/\P (k+1) (step k b))
 (he:∀ b,P n b->(T (mk n b)).run=some (.inr (fin b))):(∃ m,cU T m (mk 0 b0)=some (fin (upto step b0 n)))/\P n (upto step b0 n):=by
 have hP:∀ k,k<=n->P k (upto step b0 k):=by
  intro k
  induction k with
  |zero=>exact λ_=>h0
  |succ k ih=>exact λhk=>(hs k _ (by omega) (ih (by omega))).2
 refine ⟨?_,hP n (Nat.le_refl _)⟩
 exact Jk (λk=>mk k (upto step b0 k)) n (λk hk=>(hs k _ hk (hP k (by omega))).1) (he _ (hP n (Nat.le_refl _))) 0 (Nat.zero_le _)
end
def tab {α:Type} (x:List α) (n:Nat) (d:α):List α:=(List.range n).map λi=>x.getD i d
theorem AE {α:Type} {x:List α} {n:Nat} {d:α} (h:x.length=n):tab x n d=x:=by
 apply List.ext_getElem
 ·simp [tab,h]
 ·intro i h1 h2
  simp [tab,fP,h2]
def lay {α:Type} (x y:List α) (n:Nat) (d:α):List α:=(List.range n).foldl (λa i=>a.set i (y.getD i d)) x
theorem ot {α:Type} {x y:List α} {d:α}:∀ n,(lay x y n d).length=x.length
 |0=>rfl
 |n+1=>by
  have:=ot (x:=x) (y:=y) (d:=d) n
  simp only [lay,List.range_succ,List.foldl_append,List.foldl_cons,List.foldl_nil,cy] at this⊢
  exact this
theorem aqE {α:Type} {x y:List α} {d:α}:∀ n i,n<=x.length->i<x.length->(lay x y n d)[i]? =if i<n then some (y.getD i d) else x[i]?
 |0,i,_,_=>by simp [lay]
 |n+1,i,h,hi=>by
  have ih:=aqE (x:=x) (y:=y) (d:=d) n i (by omega) hi
  have hl:=ot (x:=x) (y:=y) (d:=d) n
  simp only [lay] at ih hl
  simp only [lay,List.range_succ,List.foldl_append,List.foldl_cons,List.foldl_nil]
  by_cases e:n=i
  ·subst e
   rw [List.getElem?_set_self (by omega),if_pos (by omega)]
  ·rw [List.getElem?_set_ne e,ih]
   by_cases h1:i<n
   ·rw [if_pos h1,if_pos (by omega)]
   ·rw [if_neg h1,if_neg (by omega)]
theorem VD {α:Type} {x y:List α} {n:Nat} {d:α} (hx:x.length=n) (hy:y.length=n):lay x y n d=y:=by
 apply List.ext_getElem?
 intro i
 by_cases hi:i<n
 ·rw [aqE n i (by omega) (by omega),if_pos hi,fP,m4 (by omega)]
  rfl
 ·rw [List.getElem?_eq_none (by rw [ot];omega),List.getElem?_eq_none (by omega)]
theorem OT.jb {α:Type} {a:α}:(OT.ok a).run=some a:=rfl
theorem OT.ak {α:Type} {b:Bool} {x y:OT α} (h:b=true):(OT.br b x y).run=x.run:=by rw [h];rfl
theorem OT.au {α:Type} {b:Bool} {x y:OT α} (h:b=false):(OT.br b x y).run=y.run:=by rw [h];rfl
def gd {α:Type}:List Bool->OT α->OT α
 | [],x=>x
 |b::r,x=>.br b (gd r x) .fail
theorem ae {α:Type} {x:OT α}:∀ {bs:List Bool},bs.all (λb=>b)=true->(gd bs x).run=x.run
 | [],_=>rfl
 |b::r,h=>by
  rw [aA,aw] at h
  exact (OT.ak h.1).trans (ae h.2)
theorem aS {n:Int} (h: -9223372036854775808<=n/\n<=9223372036854775807):inR n=true:=by simp [inR,h.1,h.2]
theorem ba {k:Int} {n:Nat} (h:0<=k/\k<(n:Int)):inB k n=true:=by simp [inB,h.1,h.2]
theorem V1 {k:Int} {n:Nat} (h:inB k n=true):k.toNat<n:=by
 simp only [inB,aw,decide_eq_true_eq] at h
 omega
theorem cF {l h:Int} {n:Nat} (hh:0<=l/\l<=h/\h<=(n:Int)):cm l h n=true:=by simp [cm,hh.1,hh.2.1,hh.2.2]
end Sx
end
section
namespace Sx
open Go Go.RowKit
def eX (w:World):Ctx:=⟨λb=>w.heap[b]?,⟨λ_=>none,w,[]⟩,λ_=>none,ap3⟩
theorem awA (w:World):cz (eX w) w:=
 ⟨λ_ _ h=>h,(λ_ _ h=>by cases h),(λc ch h=>by cases h),(λc c' ch ch' L L' h=>by cases h),λ_ _ _=>rfl,⟨rfl,rfl,rfl⟩⟩
theorem aai {w w':World} {R':Ctx} {u:List (Nat×Ch)} (h:dL (eX w) R' w' u):Below w.heap.size w w':=by
 have he:=h.mem.env
 rw [h.ext.U] at he
 have hb:∀ k,k<w.heap.size->w'.heap[k]? =w.heap[k]? :=λk hk=>by
  have h1:w.heap[k]? =some w.heap[k]:=by simp [hk]
  rw [h.mem.F k _ (h.ext.F k _ h1),h1]
 refine ⟨he.1,he.2.2,he.2.1,?_,hb⟩
 rcases Nat.lt_or_ge w'.heap.size w.heap.size with hl|hl
 ·have:=hb _ hl
  simp [hl] at this
 ·exact hl
theorem aqG {P:Program} {f:FuncId} {s:bx} (h:aa P f s) (hfn:∃ fn,P.funcs[f]? =some fn/\(fn.name== "runtime.NumGoroutine")=false/\fn.body.isNone=false) {w:World} {args:List SV} {vs:List Value} {u:List (Nat×Ch)} (hr:SV.bz (eX w) args vs)
 (ht:(s.f 0 args ap3).run=some (.ret ⟨.bool true,u⟩)):Calls P f vs.toArray w λe w'=>e=.returned (.bool true)/\Below w.heap.size w w':=by
 have hc:Calls P f vs.toArray w (iH (eX w) (.ret ⟨.bool true,u⟩)):=by
  rcases h.calls (eX w) w 0 args vs _ (awA w) hr ht with ⟨_,_,_,_,hc⟩|⟨v,w',hv,_⟩
  ·exact hc
  ·exfalso
   obtain ⟨fn,f1,f2,f3⟩:=hfn
   have f2':¬fn.name= "runtime.NumGoroutine" :=by simpa using f2
   have f3':¬fn.body=none:=λe=>by rw [e] at f3;simp at f3
   simp [callFunc,f1,f2',f3'] at hv
 refine hc.mono λe w' hp=> ?_
 obtain ⟨v,R',rfl,ha,hv⟩:=hp
 simp only [SV.rel] at hv
 subst hv
 exact ⟨rfl,aai ha⟩
end Sx
end
section
namespace Sx
open Go Go.RowKit
def Uj (te:TE) (T:TypeId) (n:Nat):Bool:=match te T with
 |some ei=>Nat.beq ei.size n
 |none=>false
def Dc (go:TypeId->Ty->Bool) (te:TE):Nat->List (Nat×TypeId)->Ty->Bool
 |o,[(p,T)],y=>Nat.beq o p&&(Uj te T y.size&&go T y)
 |o,(p,T)::q::r,.prod a b=>Nat.beq o p&&(Uj te T a.size&&(go T a&&Dc go te (o+a.size) (q::r) b))
 |_,_,_=>false
def AY (te:TE):Nat->TypeId->Ty->Bool
 |0,_,_=>false
 |n+1,T,y=>match te T with
  |none=>false
  |some ti=>match ti.desc,y with
   |.bool,.bool=>true
   |.int .u64,.u64=>true
   |.int .u8,.u8=>true
   |.int .i64,.int=>true
   |.str,.str=>true
   |.array m e,.elem=>(match te e with
    |some ei=>(match ei.desc with|.int .u64=>true|_=>false)&&Nat.beq ei.size 1
    |none=>false)&&(Nat.beq m 4&&Nat.beq ti.size 4)
   |.array m e,.arr k t=>Nat.beq m k&&(Uj te e t.size&&(Nat.beq ti.size (k*t.size)&&AY te n e t))
   |.slice e,.list t=>(match te e with
    |some ei=>Nat.beq ei.size t.size&&(Nat.blt 0 ei.size&&Nat.blt 0 ei.bytes)
    |none=>false)&&AY te n e t
   |.struct fs,y=>Nat.beq ti.size y.size&&Dc (AY te n) te 0 fs y
   |_,_=>false
theorem yE {α β:Type} {f:α->Option β}:∀ {l:List α} {ys:List β},l.mapM f=some ys->ys.length=l.length/\∀ (i:Nat) (h:i<l.length) (h':i<ys.length),f l[i]=some ys[i]
 | [],ys,h=>by grind
 |x::l,ys,h=>by
  simp [Option.bind_eq_some_iff] at h
  obtain ⟨y,h1,r,h2,rfl⟩:=h
  obtain ⟨h3,h4⟩:=yE h2
  grind
theorem zr {α:Type} {d:α} {Q:Nat->α->Prop}:∀ (n:Nat),(∀ i,i<n->∃ x,Q i x)->∃ l:List α,l.length=n/\∀ i,i<n->Q i (l.getD i d)
 |0,_=>by simp
 |n+1,h=>by
  obtain ⟨l,h1,h2⟩:=zr n λi hi=>h i (by omega)
  obtain ⟨x,hx⟩:=h n (by omega)
  refine ⟨l++ [x],by grind,λi hi=> ?_⟩
  rcases Nat.lt_or_ge i n with hi'|hi'
  ·have:=h2 i hi'
   rwa [fP,List.getElem?_append_left (by omega),<-fP]
  grind
theorem So {w:World} {a:Addr} {n:Nat} {cs:List Value} (hn:0<n) (h:w.cells? 0 a n=some cs):
 ∃ arr E fz,w.heap[a.block]? =some (.cells arr E fz)/\a.spot=none/\a.off+n<=arr.size/\cs=seg arr.toList a.off n:=by
 unfold World.cells? at h
 rw [if_pos (Nat.zero_le _)] at h
 obtain ⟨h1,h2⟩:=yE h
 rw [List.length_range] at h1
 have hat:∀ i (hi:i<n),w.cell? (a.add i)=some (cs[i]'(by omega)):=λi hi=>by
  have:=h2 i (by simpa using hi) (by omega)
  simpa using this
 have h0:=hat 0 hn
 have e0:a.add 0=a:=rfl
 rw [e0] at h0
 unfold World.cell? at h0
 split at h0
 ·rename_i arr E fz hb
  split at h0
  ·cases h0
  ·rename_i hs
   have hs':a.spot=none:=by simpa using hs
   have hget:∀ i (hi:i<n),arr[a.off+i]? =some (cs[i]'(by omega)):=λi hi=>by
    have:=hat i hi
    unfold World.cell? Addr.add at this
    by_cases hi0:i=0
    ·subst hi0
     simpa [hb,hs'] using this
    ·rw [if_neg hi0] at this
     simpa [hb] using this
   have hle:a.off+n<=arr.size:=by
    have:=(Array.getElem?_eq_some_iff.1 (hget (n-1) (by omega))).1
    omega
   refine ⟨arr,E,fz,hb,hs',hle,?_⟩
   apply List.ext_getElem
   ·rw [gW (by simpa using hle)];exact h1
   ·intro i hi hi'
    obtain ⟨hlt,he⟩:=Array.getElem?_eq_some_iff.1 (hget i (by omega))
    simp only [seg,List.getElem_take,List.getElem_drop,Array.getElem_toList]
    exact he.symm
 ·cases h0
section
variable {H:Type} {enc:TypeId×Value->H} {P:Program} {te:TE} (hte:kq P te) {w:World} {sp:Nat->Bool}
abbrev Ry (w:World):Nat->Option Obj:=λb=>w.heap[b]?
include hte
theorem kb {T:TypeId} {ti:TI} (h:te T=some ti):P.cellsOf T=ti.size:=by
 obtain ⟨i,z,h1,h2,_⟩:=(hte T ti h).aE4
 grind [Program.cellsOf]
theorem OB {T:TypeId} {ti:TI} (h:te T=some ti):P.bytesOf T=ti.bytes:=by
 obtain ⟨i,z,h1,_,h2,_⟩:=(hte T ti h).aE4
 grind [Program.bytesOf]
omit hte in
theorem xP {T:TypeId} {n:Nat} (h:Uj te T n=true):∃ ti,te T=some ti/\ti.size=n:=by
 unfold Uj at h
 split at h
 ·rename_i ei he
  exact ⟨ei,he,aY h⟩
 ·cases h
omit hte in
theorem nY {e:TypeId}:∀ {l:List (DataW H)} {d:DataW H},d ∈ l->∀ n ∈ d.weights P e,n ∈ DataW.weightsAll P e l
 |x::l,d,h,n,hn=>by
  simp only [DataW.weightsAll,List.mem_append]
  rcases List.mem_cons.1 h with rfl|h
  ·exact .inl hn
  ·exact .inr (nY h n hn)
theorem Ob {go:TypeId->Ty->Bool} {fuel:Nat} {cs:List Value}
 (hgo:∀ T y c d ps,go T y=true->c.length=y.size->DataW.trod enc P w 0 sp true fuel T c=some (d,ps)->(∀ n ∈ d.weights P T,n<=reachBytes)->∃ x,Rep (Ry w) y x c):
 ∀ (fl:List Field) (o:Nat) (y:Ty) (xs:List (DataW H×List MemPlace)),Dc go te o (fl.map λf=>(f.offset,f.type)) y=true->o+y.size=cs.length->
  fl.mapM (λf=>DataW.trod enc P w 0 sp true fuel f.type ((cs.drop f.offset).take (P.cellsOf f.type)))=some xs->
  (∀ n ∈ DataW.weightsEach P (fl.map (·.type)) (xs.map (·.1)),n<=reachBytes)->∃ x,Rep (Ry w) y x (cs.drop o)
 | [],o,y,xs,h,_,_,_=>by simp [Dc] at h
 | [f],o,y,xs,h,hl,hm,hw=>by
  simp only [List.map_cons,List.map_nil,Dc,aw] at h
  obtain ⟨h1,h2,h3⟩:=h
  have h1:=aY h1
  obtain ⟨ti,ht,hs⟩:=xP h2
  simp only [List.mapM_cons,List.mapM_nil,Option.bind_eq_bind,Option.bind_eq_some_iff,Option.pure_def,Option.some.injEq] at hm
  grind [kb,List.take_of_length_le,DataW.weightsEach]
 |f::g::r,o,y,xs,h,hl,hm,hw=>by
  cases y<;>simp only [List.map_cons,Dc,aw] at h<;>try (cases h;done)
  rename_i a b
  obtain ⟨h1,h2,h3,h4⟩:=h
  have h1:=aY h1
  obtain ⟨ti,ht,hs⟩:=xP h2
  rw [List.mapM_cons] at hm
  simp only [Option.bind_eq_bind,Option.bind_eq_some_iff,Option.pure_def,Option.some.injEq] at hm
  obtain ⟨⟨d,ps⟩,e1,q,e2,rfl⟩:=hm
  rw [kb hte ht,hs,<-h1] at e1
  simp only [Ty.size] at hl
  obtain ⟨x1,k1⟩:=hgo _ _ _ _ _ h3 (by simp;omega) e1 λn hn=>hw n (by simp only [List.map_cons,DataW.weightsEach,List.mem_append];exact .inl hn)
  obtain ⟨x2,k2⟩:=Ob hgo (g::r) (o+a.size) b q h4 (by omega) e2 λn hn=>hw n (by grind [DataW.weightsEach])
  refine ⟨(x1,x2),?_⟩
  grind [Rep,List.drop_drop]
theorem at8 {go:TypeId->Ty->Bool} {fuel:Nat} {cs:List Value} {e:TypeId} {t:Ty} {ei:TI} (he:te e=some ei) (hs:ei.size=t.size)
 (hgo:∀ c d ps,c.length=t.size->DataW.trod enc P w 0 sp true fuel e c=some (d,ps)->(∀ n ∈ d.weights P e,n<=reachBytes)->∃ x,Rep (Ry w) t x c) {m:Nat} (hl:cs.length=m*t.size) {xs:List (DataW H×List MemPlace)}
 (hm:((List.range m).mapM λi=>DataW.trod enc P w 0 sp true fuel e ((cs.drop (i*P.cellsOf e)).take (P.cellsOf e)))=some xs)
 (hw:∀ n ∈ DataW.weightsAll P e (xs.map (·.1)),n<=reachBytes):∀ i,i<m->∃ x,Rep (Ry w) t x (seg cs (i*t.size) t.size):=λi hi=>by
 obtain ⟨h1,h2⟩:=yE hm
 rw [List.length_range] at h1
 have:=h2 i (by grind) (by omega)
 rw [List.getElem_range,kb hte he,hs] at this
 have hle:(i+1)*t.size<=m*t.size:=ck _ hi
 rw [Nat.succ_mul] at hle
 refine hgo _ (xs[i]'(by omega)).1 (xs[i]'(by omega)).2 (gW (by omega)) this λn hn=>hw n (nY (by grind) n hn)
omit hte in
theorem aCp {fuel:Nat} {e:TypeId} {c:Value} {d:DataW H} {ps:List MemPlace} (hu:P.underlying e=some (.int .u64)) (hr:DataW.trod enc P w 0 sp true fuel e [c]=some (d,ps)):∃ x:UInt64,c=eD x:=by
 cases fuel with
 |zero=>simp [DataW.trod] at hr
 |succ fuel=>
  simp only [DataW.trod,hu] at hr
  cases c<;>simp only at hr<;>try (cases hr;done)
  rename_i k' n
  split at hr
  ·rename_i hk
   obtain ⟨rfl,hwf⟩:=hk
   have:=bounds_u64 hwf
   refine ⟨UInt64.ofNat n.toNat,?_⟩
   simp only [eD,dv]
   congr 1
   omega
  ·cases hr
theorem Ay:∀ (k fuel:Nat) (T:TypeId) (y:Ty) (cs:List Value) (d:DataW H) (ps:List MemPlace),AY te k T y=true->cs.length=y.size->DataW.trod enc P w 0 sp true fuel T cs=some (d,ps)->
 (∀ n ∈ d.weights P T,n<=reachBytes)->∃ x,Rep (Ry w) y x cs
 |0,_,_,_,_,_,_,h,_,_,_=>by simp [AY] at h
 |k+1,0,_,_,_,_,_,_,_,h,_=>by simp [DataW.trod] at h
 |k+1,fuel+1,T,y,cs,d,ps,h,hl,hr,hw=>by
  simp only [AY] at h
  split at h
  ·cases h
  ·rename_i ti hT
   obtain ⟨ds,hu,hd⟩:=(hte T ti hT).desc
   have hcells:=kb hte hT
   simp only [DataW.trod,hu] at hr
   split at h
   ·--bool
    rename_i he
    rw [he] at hd
    simp only at hd
    subst hd
    match cs,hl with
    | [c],hl1=>
     cases c<;>simp only [Option.some.injEq] at hr<;>try (cases hr;done)
     exact ⟨_,rfl⟩
   ·rename_i he
    rw [he] at hd
    simp only at hd
    subst hd
    match cs,hl with
    | [c],hl1=>
     cases c<;>simp only at hr<;>try (cases hr;done)
     rename_i k' n
     split at hr
     ·rename_i hk
      obtain ⟨rfl,hwf⟩:=hk
      have:=bounds_u64 hwf
      refine ⟨UInt64.ofNat n.toNat,?_⟩
      simp only [Rep,eD,dv]
      congr 2
      omega
     ·cases hr
   ·rename_i he
    rw [he] at hd
    simp only at hd
    subst hd
    match cs,hl with
    | [c],hl1=>
     cases c<;>simp only at hr<;>try (cases hr;done)
     rename_i k' n
     split at hr
     ·rename_i hk
      obtain ⟨rfl,hwf⟩:=hk
      have:=bounds_u8 hwf
      refine ⟨UInt8.ofNat n.toNat,?_⟩
      simp only [Rep,vu8,UInt8.toNat_ofNat']
      congr 2
      omega
     ·cases hr
   ·rename_i he
    rw [he] at hd
    simp only at hd
    subst hd
    match cs,hl with
    | [c],hl1=>
     cases c<;>simp only at hr<;>try (cases hr;done)
     rename_i k' n
     split at hr
     ·rename_i hk
      obtain ⟨rfl,hwf⟩:=hk
      have:=bounds_i64 hwf
      exact ⟨n,rfl,aS (by omega)⟩
     ·cases hr
   ·rename_i he
    rw [he] at hd
    simp only at hd
    subst hd
    match cs,hl with
    | [c],hl1=>
     cases c<;>simp only at hr<;>try (cases hr;done)
     rename_i s
     split at hr
     ·cases hr
      refine ⟨s.data.toList,?_⟩
      have:=hw s.data.toList.length (by simp [DataW.weights])
      unfold reachBytes at this
      simp only [Rep]
      exact ⟨trivial,by unfold cL;omega⟩
     ·cases hr
   ·--four words
    rename_i m e he
    rw [he] at hd
    simp only at hd
    subst hd
    simp only [aw] at h
    obtain ⟨h1,h2,h3⟩:=h
    split at h1
    ·rename_i ei hei
     rw [aw] at h1
     obtain ⟨h4,h5⟩:=h1
     split at h4
     ·rename_i hed
      have h2:=aY h2
      have h5:=aY h5
      subst h2
      obtain ⟨de,hue,hde⟩:=(hte e ei hei).desc
      rw [hed] at hde
      simp only at hde
      subst hde
      have hl4:cs.length=4:=hl
      simp only at hr
      rw [if_pos (by rw [hcells];rw [hl4];exact (aY h3).symm)] at hr
      simp only [Option.map_eq_some_iff] at hr
      obtain ⟨xs,hm,hx⟩:=hr
      obtain ⟨m1,m2⟩:=yE hm
      rw [List.length_range] at m1
      match cs,hl4 with
      | [c0,c1,c2,c3],hl1=>
       have key:∀ i (hi:i<4),∃ x:UInt64,[c0,c1,c2,c3][i]=eD x:=λi hi=>by
        have:=m2 i (by simpa using hi) (by omega)
        rw [List.getElem_range,kb hte hei,h5,Nat.mul_one] at this
        have e2:([c0,c1,c2,c3].drop i).take 1= [[c0,c1,c2,c3][i]]:=by
         rw [mZ (by simpa using hi)]
         rfl
        rw [e2] at this
        exact aCp hue this
       obtain ⟨x0,k0⟩:=key 0 (by omega)
       obtain ⟨x1,k1⟩:=key 1 (by omega)
       obtain ⟨x2,k2⟩:=key 2 (by omega)
       obtain ⟨x3,k3⟩:=key 3 (by omega)
       simp only [List.getElem_cons_zero,List.getElem_cons_succ] at k0 k1 k2 k3
       exact ⟨⟨x0,x1,x2,x3⟩,by simp only [Rep,k0,k1,k2,k3]⟩
     ·cases h4
    ·cases h1
   ·--an array
    rename_i m e k' t he
    rw [he] at hd
    simp only at hd
    subst hd
    simp only [aw] at h
    obtain ⟨h1,h2,h3,h4⟩:=h
    have h1:=aY h1
    subst h1
    obtain ⟨ei,hei,hs⟩:=xP h2
    have hl':cs.length=m*t.size:=hl
    simp only at hr
    rw [if_pos (by rw [hcells,hl'];exact (aY h3).symm)] at hr
    simp only [Option.map_eq_some_iff] at hr
    obtain ⟨xs,hm,hx⟩:=hr
    cases hx
    have key:=at8 (go:=λ_ _=>true) hte hei hs (λc d ps h1 h2 h3=>Ay k fuel e t c d ps h4 h1 h2 h3) hl' hm (λn hn=>hw n (by simp only [DataW.weights,hu];exact hn))
    obtain ⟨l,l1,l2⟩:=zr (d:=t.d) m key
    exact ⟨l,hl',l1,l2⟩
   ·--a slice
    rename_i e t he
    rw [he] at hd
    simp only at hd
    subst hd
    rw [aw] at h
    obtain ⟨h1,h4⟩:=h
    split at h1
    ·rename_i ei hei
     simp only [aw] at h1
     obtain ⟨h1,h2,h3⟩:=h1
     have hs:=aY h1
     have hpos:=dI h2
     have hby:=dI h3
     match cs,hl with
     | [c],hl1=>
      cases c<;>try (exfalso;simp at hr;done)
      rename_i ad len cap
      cases ad with
      |none=>
       rcases len with _|len
       ·rcases cap with _|cap
        ·exact ⟨[],by simp only [Rep];exact ⟨Nat.zero_le _,none,0,rfl,Nat.le_refl _,.inl trivial⟩⟩
        ·cases hr
       ·cases hr
      |some a=>
       simp only at hr
       split at hr
       ·rename_i hcond
        obtain ⟨_,hlc,_⟩:=hcond
        simp only [Option.bind_eq_some_iff,Option.map_eq_some_iff] at hr
        obtain ⟨elems,hm,rest,_,hx⟩:=hr
        cases hx
        obtain ⟨m1,m2⟩:=yE hm
        rw [List.length_range] at m1
        have hwt:=hw ((elems.length+rest.length)*P.bytesOf e) (by simp [DataW.weights,hu])
        rw [OB hte hei] at hwt
        have hlen:len<=cL:=by
         have:elems.length<=(elems.length+rest.length)*ei.bytes:=cT (Nat.le_add_right _ _) (Nat.le_mul_of_pos_right _ hby)
         unfold reachBytes at hwt
         unfold cL
         omega
        rcases Nat.eq_zero_or_pos len with h0|h0
        ·subst h0
         exact ⟨[],by simp only [Rep];exact ⟨Nat.zero_le _,_,_,rfl,Nat.zero_le _,.inl trivial⟩⟩
        ·have key:∀ i,i<len->∃ c,w.cells? 0 (a.add (i*t.size)) t.size=some c/\∃ x,Rep (Ry w) t x c:=λi hi=>by
          have:=m2 i (by simpa using hi) (by omega)
          rw [List.getElem_range,kb hte hei,hs] at this
          obtain ⟨c,hc,hrr⟩:=Option.bind_eq_some_iff.1 this
          refine ⟨c,hc,Ay k fuel e t c (elems[i]'(by omega)).1 (elems[i]'(by omega)).2 h4 ?_ hrr λn hn=>hw n ?_⟩
          ·obtain ⟨arr,E,fz,_,_,hle,rfl⟩:=So (by omega) hc
           exact gW (by simpa using hle)
          ·simp only [DataW.weights,hu,List.mem_cons,List.mem_append]
           exact .inr (.inl (nY (List.mem_map.2 ⟨elems[i]'(by omega),List.getElem_mem _,rfl⟩) n hn))
         obtain ⟨c0,hc0,_⟩:=key 0 h0
         rw [Nat.zero_mul] at hc0
         obtain ⟨arr,E,fz,hb,hsp,_,_⟩:=So (by omega) hc0
         have hb':w.heap[a.block]? =some (.cells arr E fz):=hb
         have hsp':a.spot=none:=hsp
         have at_i:∀ i,i<len->a.off+i*t.size+t.size<=arr.size/\∃ x,Rep (Ry w) t x (seg arr.toList (a.off+i*t.size) t.size):=λi hi=>by
          obtain ⟨c,hc,x,hx⟩:=key i hi
          obtain ⟨arr2,E2,fz2,hb2,_,hle,rfl⟩:=So (by omega) hc
          have hblk:(a.add (i*t.size)).block=a.block:=by unfold Addr.add;split<;>rfl
          have hoff:(a.add (i*t.size)).off=a.off+i*t.size:=by
           unfold Addr.add
           split
           ·rename_i h;rw [h];rfl
           ·rfl
          rw [hblk,hb'] at hb2
          cases hb2
          rw [hoff] at hle hx
          exact ⟨hle,x,hx⟩
         obtain ⟨l,l1,l2⟩:=zr (d:=t.d) len λi hi=>(at_i i hi).2
         refine ⟨l,?_⟩
         simp only [Rep]
         refine ⟨by omega,some a,cap,by rw [l1],by omega,.inr ⟨a.block,a.off,arr,E,fz,?_,hb',?_,λi hi=>l2 i (by omega)⟩⟩
         ·obtain ⟨blk,off,spot⟩:=a
          simp only at hsp'
          rw [hsp']
         ·have:=(at_i (len-1) (by omega)).1
          have e2:(len-1)*t.size+t.size=len*t.size:=by
           rw [<-Nat.succ_mul]
           congr 1
           omega
          rw [l1]
          omega
       ·cases hr
    ·cases h1
   ·--a struct
    rename_i y _ _ fs he
    rw [he] at hd
    simp only at hd
    obtain ⟨fields,rfl,hf,_⟩:=hd
    rw [aw] at h
    have hsz:=aY h.1
    simp only at hr
    rw [if_pos (by rw [hcells,hl];exact hsz.symm)] at hr
    simp only [Option.map_eq_some_iff] at hr
    obtain ⟨xs,hm,hx⟩:=hr
    cases hx
    have h2:=h.2
    rw [<-hf] at h2
    have:=Ob hte (go:=AY te k) (cs:=cs) (λT y c d ps a b c' d'=>Ay k fuel T y c d ps a b c' d') fields.toList 0 y xs h2 (by omega) hm (λn hn=>hw n (by simp only [DataW.weights,hu];exact hn))
    simpa using this
   ·cases h
end
end Sx
end
section
namespace Sx
open Go Go.RowKit Go.ChangeShapes Go.WideShapes Go.ChangeAt
def at9 (te:TE) (k:Nat):List TypeId->List (Bool×Ty)->Bool
 | [],[]=>true
 |T::ts,(b,y)::r=>(match te T with
  |some ti=>(b==ti.desc.agg)&&Nat.beq ti.size y.size
  |none=>false)&&(AY te k T y&&at9 te k ts r)
 |_,_=>false
section
variable {H:Type} {enc:TypeId×Value->H} {P:Program} {te:TE} (hte:kq P te) {w:World} {sp:Nat->Bool}
include hte
theorem aw8 {k:Nat} {T:TypeId} {y:Ty} {ti:TI} {v:Value} {d:DataW H} {ps:List MemPlace} (hT:te T=some ti) (hs:ti.size=y.size) (hp:AY te k T y=true) {base:Nat} (hok:Value.okWide P w .any base T v)
 (h:DataW.Trod enc P w 0 sp true T v d ps) (hw:∀ n ∈ d.weights P T,n<=reachBytes):∃ x:y.T,SV.rel (eX w) (inj ti.desc.agg y x) v:=by
 obtain ⟨fuel,hf⟩:=h
 obtain ⟨ds,hu,hd⟩:=(hte T ti hT).desc
 cases hagg:ti.desc.agg
 ·have hone:v.cells.toList= [v]/\v.oneCell'=true:=by
   have hc:Cell.okWide P w .any base T v:=by
    unfold Value.okWide at hok
    rw [hu] at hok
    cases ds<;>first|exact hok|skip
    all_goals (
     cases hk:ti.desc<;>rw [hk] at hd hagg<;>simp only [TD.agg] at hd hagg<;>
      first|(cases hagg;done)|(cases hd;done)|(obtain ⟨e,he⟩:=hd;cases he;done)|(obtain ⟨⟨e,he⟩,_⟩:=hd;cases he;done)|exact absurd hd id)
   unfold Cell.okWide Cell.ok at hc
   rw [hu] at hc
   cases v<;>first|exact ⟨rfl,rfl⟩|(exfalso;cases ds<;>first|exact hc|(simp at hc;done))
  rw [hone.1] at hf
  have hsz:y.size=1:=by rw [<-hs];exact (hte T ti hT).one hagg
  obtain ⟨x,hx⟩:=Ay hte k fuel T y [v] d ps hp (by rw [hsz];rfl) hf hw
  refine ⟨x,?_⟩
  have hr:=fh (R:=eX w) y x [v] hx
  simp only [inj,rG,Bool.false_eq_true,if_false]
  have hl:=gV y x
  rw [hsz] at hl
  match hc:unpack y x,hl with
  | [u],_=>
   rw [hc] at hr
   obtain ⟨v',e,h⟩:=bY hr
   cases e
   exact h
 ·have hv:∃ cs,v=.agg cs/\cs.size=P.cellsOf T:=by
   unfold Value.okWide at hok
   rw [hu] at hok
   cases hk:ti.desc<;>rw [hk] at hd hagg<;>simp only [TD.agg] at hd hagg<;>try (cases hagg;done)
   ·obtain ⟨fields,rfl,_⟩:=hd
    obtain ⟨cs,h1,h2,_⟩:=hok
    exact ⟨cs,h1,h2⟩
   ·subst hd
    obtain ⟨cs,h1,h2,_⟩:=hok
    exact ⟨cs,h1,h2⟩
  obtain ⟨cs,rfl,hsz⟩:=hv
  obtain ⟨x,hx⟩:=Ay hte k fuel T y cs.toList d ps hp (by rw [Array.length_toList,hsz,kb hte hT,hs]) hf hw
  exact ⟨x,Bf (fh (R:=eX w) y x _ hx) (rb _ _ _ hx)⟩
theorem Vh {k base:Nat}:∀ {ts:List TypeId} {kd:List (Bool×Ty)} {vs:List Value} {ds:List (DataW H)} {ps:List MemPlace},at9 te k ts kd=true->
 (∀ (j:Nat) t v,ts[j]? =some t->vs[j]? =some v->Value.okWide P w .any base t v)->DataW.TrodAll enc P w 0 sp true ts vs ds ps->(DataW.weightsEach P ts ds).all (· <=reachBytes)=true->
 ∃ x:ATy kd,SV.bz (eX w) (axN kd x) vs
 | [],[],[],[],_,_,_,_,_=>⟨(),by simp only [axN,SV.bz]⟩
 | [],[],v::vs,_,_,_,_,h,_=>by simp [DataW.TrodAll] at h
 | [],[],[],d::ds,_,_,_,h,_=>by simp [DataW.TrodAll] at h
 | [],a::kd,_,_,_,h,_,_,_=>by simp [at9] at h
 |T::ts,[],_,_,_,h,_,_,_=>by simp [at9] at h
 |T::ts,(b,y)::kd,[],_,_,_,_,h,_=>by simp [DataW.TrodAll] at h
 |T::ts,(b,y)::kd,v::vs,[],_,_,_,h,_=>by simp [DataW.TrodAll] at h
 |T::ts,(b,y)::kd,v::vs,d::ds,ps,h,hok,ht,hw=>by
  obtain ⟨p,q,h1,h2,rfl⟩:=ht
  simp only [at9,aw] at h
  obtain ⟨hb,hp,hr⟩:=h
  split at hb
  ·rename_i ti hT
   rw [aw] at hb
   have e1:b=ti.desc.agg:=by simpa using hb.1
   subst e1
   simp only [DataW.weightsEach,List.all_append,aw] at hw
   obtain ⟨x,hx⟩:=aw8 hte hT (aY hb.2) hp (hok 0 T v rfl rfl) h1 λn hn=>by simpa using List.all_eq_true.1 hw.1 n hn
   obtain ⟨xs,hxs⟩:=Vh hr (λj t u h1 h2=>hok (j+1) t u h1 h2) h2 hw.2
   exact ⟨(x,xs),by simp only [axN,SV.bz];exact ⟨v,vs,rfl,hx,hxs⟩⟩
  ·cases hb
end
theorem aww {S:af} {pre:S.T->Bool} {F:S.T->OT S.Y} {args:List SV} {X:S.T} {out:Out} (hp:S.inp.prj ⟨args,ap3⟩=some X) (hpre:pre X=true)
 (hr:((F X).bind λoy=>S.emit (S.inp.bd ⟨args,ap3⟩) 0 ap3 oy.1 oy.2).run=some out):((S.az pre F).f 0 args ap3).run=some out:=by
 simp only [af.az,hp,hpre]
 exact hr
theorem OQ {H:Type} {enc:TypeId×Value->H} {P:Program} {w w':World} (hl:laidOutB P=true) (hb:Below w.heap.size w w'):∀ {ts:List TypeId} {vs:List Value} {ds:List (DataW H)} {ps:List MemPlace},
 ts.all (λt=>P.readableRec t&&Nat.blt t P.types.size)=true->DataW.TrodAll enc P w 0 (λ_=>true) true ts vs ds ps->DataW.TrodAll enc P w' 0 (λb=>decide (b<w.heap.size)) true ts vs ds ps
 | [],[],[],_,_,h=>h
 | [],v::vs,_,_,_,h=>by simp [DataW.TrodAll] at h
 | [],[],d::ds,_,_,h=>by simp [DataW.TrodAll] at h
 |T::ts,[],_,_,_,h=>by simp [DataW.TrodAll] at h
 |T::ts,v::vs,[],_,_,h=>by simp [DataW.TrodAll] at h
 |T::ts,v::vs,d::ds,ps,hr,h=>by
  obtain ⟨p,q,h1,h2,rfl⟩:=h
  simp only [aA,aw] at hr
  have lt1:∀ x ∈ p,x.block<w.heap.size:=by obtain ⟨m,hm⟩:=h1;exact DataW.trod_lt m _ _ _ hm
  exact ⟨p,q,Below.trod hl hr.1.1 (dI hr.1.2) h1 hb lt1,OQ hl hb hr.2 h2,rfl⟩
end Sx
end
section
namespace Sx
open Go Go.RowKit Go.ChangeShapes Go.WideShapes Go.ChangeAt
section
variable {H:Type} {enc:TypeId×Value->H} {P:Program} {te:TE} (hte:kq P te) {w:World} {sp:Nat->Bool}
include hte
theorem aao {T e:TypeId} {ti ei:TI} (hT:te T=some ti) (hd:ti.desc=.slice e) (hei:te e=some ei) {ad:Option Addr} {n cap:Nat} {d:DataW H} {ps:List MemPlace}
 (h:DataW.Trod enc P w 0 sp true T (.slice ad n cap) d ps) (hw:∀ n ∈ d.weights P T,n<=reachBytes):n*ei.bytes<=reachBytes:=by
 obtain ⟨fuel,hr⟩:=h
 obtain ⟨ds,hu,hds⟩:=(hte T ti hT).desc
 rw [hd] at hds
 simp only at hds
 subst hds
 cases fuel with
 |zero=>simp [DataW.trod] at hr
 |succ fuel=>
  have hone:(Value.slice ad n cap).cells.toList= [.slice ad n cap]:=rfl
  rw [hone] at hr
  simp only [DataW.trod,hu] at hr
  cases ad with
  |none=>
   rcases n with _|n
   ·rw [Nat.zero_mul];exact Nat.zero_le _
   ·cases cap<;>cases hr
  |some a=>
   simp only at hr
   split at hr
   ·simp only [Option.bind_eq_some_iff,Option.map_eq_some_iff] at hr
    obtain ⟨elems,hm,rest,_,hx⟩:=hr
    cases hx
    obtain ⟨m1,_⟩:=yE hm
    rw [List.length_range] at m1
    have hwt:=hw ((elems.length+rest.length)*P.bytesOf e) (by simp [DataW.weights,hu])
    rw [OB hte hei] at hwt
    refine cT (ck _ ?_) hwt
    omega
   ·cases hr
end
end Sx
end
section
namespace Sx
open Go Go.RowKit Go.ChangeShapes Go.WideShapes Go.ChangeAt
theorem MM {H:Type} {P:Program} {n:Nat}:∀ {ts:List TypeId} {ds:List (DataW H)} {i:Nat} {t:TypeId} {d:DataW H},ts[i]? =some t->ds[i]? =some d->n ∈ d.weights P t->n ∈ DataW.weightsEach P ts ds
 | [],_,_,_,_,h,_,_=>by simp at h
 |_::_,[],_,_,_,_,h,_=>by simp at h
 |t::ts,d::ds,0,_,_,h,k,hn=>by
  cases h
  cases k
  simp only [DataW.weightsEach,List.mem_append]
  exact .inl hn
 |t::ts,d::ds,i+1,_,_,h,k,hn=>by
  simp only [DataW.weightsEach,List.mem_append]
  exact .inr (MM (i:=i) (by simpa using h) (by simpa using k) hn)
end Sx
end
section
namespace Sx
open Go
theorem OT.SJ {α β:Type} {f:α->OT β}:∀ {t:OT α} {a:α} {b:β},t.run=some a->(f a).run=some b->(t.bind f).run=some b
 |.ok x,a,b,h,h2=>by
  cases h
  exact h2
 |.br c x y,a,b,h,h2=>by
  cases c
  ·exact OT.SJ (t:=y) h h2
  ·exact OT.SJ (t:=x) h h2
 |.fail,a,b,h,_=>by cases h
theorem cJ {P:Program} {n:FuncId} {S:af} {pre pre':S.T->Bool} {F F':S.T->OT S.Y} (h:aa P n (S.az pre F))
 (hw:∀ x oy,pre' x=true->(F' x).run=some oy->pre x=true/\(F x).run=some oy):aa P n (S.az pre' F'):=by
 refine ⟨λR w d args vs out hm hr hrun=>h.calls R w d args vs out hm hr ?_⟩
 simp only [af.az] at hrun⊢
 split at hrun
 ·cases hrun
 ·rename_i x hx
  obtain ⟨hp,hrun⟩:=OT.aE hrun
  obtain ⟨oy,h1,h2⟩:=OT.run_bind hrun
  obtain ⟨h3,h4⟩:=hw x oy hp h1
  rw [h3]
  exact OT.SJ h4 h2
end Sx
end
section
namespace Sx
open Go
theorem aAC {P:Program} {f:FuncId} {S:af} {k:Nat} (hk:S.chunks.all (λc=>Nat.blt c.1 k&& !c.2.iO)=true) {pre:S.T->Bool} {F:S.T->OT S.Y}
 (h:∀ (x:S.T) (oy:S.Y) (vs:List Value) (N:Ctx) (w:World),pre x=true->(F x).run=some oy->SV.bz N (S.inp.inj x).tm vs->
  ∃ v u,(callFunc f vs.toArray).run P w=.ok (.value u) w/\SV.rel N v u/\oy.1.is oy.2 false v (dO S.chunks x.2)):aa P f (S.az pre F):=by
 refine ⟨?_⟩
 intro R w d args vs out hm hr hrun
 simp only [af.az] at hrun
 split at hrun
 ·cases hrun
 ·rename_i x hx
  obtain ⟨hpre,h2⟩:=OT.aE hrun
  obtain ⟨oy,h3,h4⟩:=OT.run_bind h2
  unfold af.emit at h4
  dsimp only at h4
  obtain ⟨hend,h5⟩:=OT.aE h4
  have hx':=hx
  unfold Shape.prj at hx'
  dsimp only at hx'
  cases hbo:S.inp.Lr ⟨args,R.hp⟩ (S.inp.bd ⟨args,R.hp⟩)&&Nat.beq args.length S.inp.n
  ·rw [hbo] at hx';cases hx'
  ·rw [hbo] at hx'
   rw [aw] at hbo
   obtain ⟨hx1,hx2⟩:=aW hx'
   have hlen:args.length=S.inp.n:=aY hbo.2
   have hN:=GD (s:=S.inp) (st:=⟨args,R.hp⟩) (F':=R.Bt (S.inp.bd ⟨args,R.hp⟩) S.bI w) (U':=R.GP (S.inp.bd ⟨args,R.hp⟩) S.bI w) hbo.1 hx2 rfl hm (JK hm) (DL hm) ab7 (JJ hm) JI aq0 hm.env
   have hargs:SV.bz (R.named (R.Bt (S.inp.bd ⟨args,R.hp⟩) S.bI w) (R.GP (S.inp.bd ⟨args,R.hp⟩) S.bI w) (S.inp.bd ⟨args,R.hp⟩) (dO S.chunks x.2)) (S.inp.inj x).tm vs:=
    kA (s:=S.inp) (st:=⟨args,R.hp⟩) hbo.1 hx2 rfl hm (JK hm) (DL hm) hr hx1 (SV.pC (by rw [fW,<-hlen];exact SV.aN hr) λi hi hi'=>by simp [SV.rel])
   obtain ⟨v,u,hv,hru,his⟩:=h x oy vs _ w hpre h3 hargs
   obtain ⟨R',a1,a2⟩:=ahc hm hx hk (Ctx.Ext.refl _) hN hru his hend
   rw [his.1] at h5
   cases h5
   exact .inr ⟨u,w,hv,u,R',rfl,a1,a2⟩
end Sx
end
section
namespace Sx
open Go
def Out.after (u:List (Nat×Ch)):Out->Out
 |.ret e=>.ret ⟨e.v,u++e.upd⟩
 |.pan v u'=>.pan v (u++u')
def aCz (c0 e0:Nat) (vs:List SV) (j c e:Nat) (t:Ty) (xs:List t.T):List (Nat×Ch):= [(c,⟨e+1,.row .u8 []⟩),(c0,⟨e0,.cells (vs.set j (.lst t xs))⟩)]
theorem Dw {α β:Type} {f:α->β} {x:OT α} {a:α} (h:x.run=some a):(x.map f).run=some (f a):=by
 induction x with
 |ok b=>cases h;rfl
 |br b u v hu hv=>
  cases b
  ·exact hv h
  ·exact hu h
 |fail=>cases h
theorem dL.trans {R R1 R2:Ctx} {w w':World} {u u':List (Nat×Ch)} (h:dL R R1 w u) (h':dL R1 R2 w' u'):dL R R2 w' (u++u'):=
 ⟨h.ext.trans h'.ext,by rw [h'.hp,h.hp,iK],h'.mem⟩
theorem aeR {R:Ctx} {w:World} (hm:cz R w) {c e:Nat} {t:Ty} {xs:List t.T} (hc:R.hp c=some ⟨e,.row t xs⟩):
 ∃ R1,dL R R1 w [(c,⟨e+1,.row .u8 []⟩)]/\∀ v,R.own c e v->SV.rel R1 (.lst t xs) v:=by
 have h0:=hm.ch c _ hc
 cases hσ:R.σ c with
 |none=>
  simp only [eW,hσ] at h0
  have hx:R.Ext (R.upd c ⟨e+1,.row .u8 []⟩):=⟨λ_ _ h=>h,rfl,λc' ch' hc'=>by
   grind [Ctx.upd]⟩
  refine ⟨R.upd c ⟨e+1,.row .u8 []⟩,⟨hx,rfl,?_⟩,λv hv=> ?_⟩
  ·refine cz.turn hm hx rfl rfl (λ_ _=>rfl) w.heap.size (λ_ _ _=>rfl) ⟨hm.MJ,hm.MG,λn ch L hn h1 h2 h3=> ?_⟩ ?_ (λL h2=> ?_)
   ·have:=hm.lt h1 h2 h3;omega
   ·simp only [eW,Ctx.upd,hσ]
    exact ⟨by decide,by simp,trivial⟩
   ·have h2:R.σ c=some L:=h2
    grind
  ·have hp:=Ctx.cV hc hv
   obtain ⟨_,_,ad,cap,rfl,h4,h5⟩:=Ctx.cK hc hp
   simp_all [SV.rel,Rep]
 |some L=>
  simp only [eW,hσ] at h0
  obtain ⟨hpos,hl,hF,hU,arr,E,k1,k2,k3,k4⟩:=h0
  have ha:=QY hm hc hσ (w₁:=w) (λ_ _=>rfl) k1 ⟨rfl,rfl,rfl⟩
  refine ⟨_,ha,λv hv=> ?_⟩
  have hp:=Ctx.cV hc hv
  obtain ⟨_,_,ad,cap,rfl,h4,h5⟩:=Ctx.cK hc hp
  rw [hσ] at h5
  simp only [Chunk.shape,Nat.zero_mul] at h4 h5
  refine ⟨hl,ad,cap,rfl,h4,?_⟩
  by_cases hx:xs= []
  ·exact .inl hx
  ·have hxl:0<xs.length:=(by grind)
   have had:=h5.2 (by omega)
   subst had
   exact .inr ⟨L.block,L.base,arr,E,(0,0),rfl,by grind [Ctx.oq],by omega,λi hi=>bR ha.ext.F _ _ _ (k4 i hi)⟩
theorem C6 {R:Ctx}:∀ {l:List SV} {vs:List Value} (j:Nat) (x:SV),SV.bz R l vs->(∀ v,vs[j]? =some v->SV.rel R x v)->SV.bz R (l.set j x) vs
 | [],_,_,_,h,_=>h
 |y::l,vs,0,x,h,hx=>by
  grind [SV.bz]
 |y::l,vs,j+1,x,h,hx=>by
  obtain ⟨v,r,rfl,h1,h2⟩:=h
  exact ⟨v,r,rfl,h1,C6 j x h2 (by grind)⟩
theorem aaC {R:Ctx}:∀ {l:List SV} {vs:List Value} {j:Nat} {x:SV},SV.bz R l vs->l[j]? =some x->∃ v,vs[j]? =some v/\SV.rel R x v
 |y::l,vs,0,x,h,hx=>by
  grind [SV.bz]
 |y::l,vs,j+1,x,h,hx=>by
  obtain ⟨v,r,rfl,h1,h2⟩:=h
  exact aaC (j:=j) h2 hx
 | [],_,_,_,_,hx=>by grind
theorem MR {R:Ctx} {w:World} (hm:cz R w) {c0 e0 j c e:Nat} {vs:List SV} {t:Ty} {xs:List t.T} (h0:R.hp c0=some ⟨e0,.cells vs⟩) (hj:vs[j]? =some (.own c e)) (hc:R.hp c=some ⟨e,.row t xs⟩) (hne:c≠c0):
 ∃ R1,dL R R1 w (aCz c0 e0 vs j c e t xs):=by
 obtain ⟨R1,ha,hrel⟩:=aeR hm hc
 have hch:=hm.ch c0 _ h0
 obtain ⟨L,hL,hF,hU,arr,E,k1,k2,k3,k4,k5⟩:=hch
 have h0':R1.hp c0=some ⟨e0,.cells vs⟩:=by
  rw [ha.hp]
  show (if c0=c then _ else R.hp c0)=_
  grind
 have hch1:=ha.mem.ch c0 _ h0'
 obtain ⟨L1,hL1,hF1,hU1,arr1,E1,q1,q2,q3,q4,q5⟩:=hch1
 obtain ⟨ch',hc1,hep,hsame⟩:=ha.ext.ch c0 _ h0
 have hL1':R1.σ c0=R.σ c0:=by
  grind
 rw [hL1',hL] at hL1
 cases hL1
 rw [k1] at q1
 obtain ⟨v,hv,hvr⟩:=aaC k4 hj
 simp only [SV.rel] at hvr
 have hx:R1.Ext (R1.upd c0 ⟨e0,.cells (vs.set j (.lst t xs))⟩):=Ctx.ZI h0' (Nat.le_refl _) (λ_=>by grind [Chunk.shape])
 refine ⟨R1.upd c0 ⟨e0,.cells (vs.set j (.lst t xs))⟩,ha.ext.trans hx,?_,?_⟩
 ·show (λn=>if n=c0 then some _ else R1.hp n)=_
  rw [ha.hp]
  rfl
 ·refine cz.turn ha.mem hx rfl rfl (λ_ _=>rfl) L.block (by grind) ⟨hF1,hU1,λn ch2 L2 hn hn2 hm2 hs2 heq=>hn (ha.mem.apart n c0 _ _ L2 L hn2 h0' hm2 rfl hs2 (hL1'.trans hL) heq)⟩ ?_ (λL2 h2=> ?_)
  ·refine ⟨L,hL1'.trans hL,hF1,hU1,arr,E,k1,k2,by grind,?_,k5⟩
   grind [SV.eZ,C6]
  ·have h3:R1.σ c0=some L2:=h2
   grind
end Sx
end
section
namespace Sx
open Go
def alB (u:List (Nat×Ch)) (c e:Nat):Option Chunk:=match cO ap3 u c with
 |some ⟨ep,b⟩=>cond (Nat.beq ep e) (some b) none
 |none=>none
theorem NG {u:List (Nat×Ch)} {c e:Nat} {b:Chunk} (h:alB u c e=some b) {hp:Hp}:cO hp u c=some ⟨e,b⟩:=by grind [alB,Nat.beq,aY,bu,Qi,ap3,eJ]
def hop (u:List (Nat×Ch)):List Nat->SV->Option (Nat×Nat)
 | [],.ptr c e 0 0=>some (c,e)
 | [],.iface _ (.ptr c e 0 0)=>some (c,e)
 |i::r,.ptr c e 0 0=>match alB u c e with
  |some (.cells vs)=>hop u r (vs.getD i .gu)
  |_=>none
 |i::r,.iface _ (.ptr c e 0 0)=>match alB u c e with
  |some (.cells vs)=>hop u r (vs.getD i .gu)
  |_=>none
 |_,_=>none
def aF0:SV->SV
 |.tup (x::_)=>x
 |x=>x
def aHl (path:List Nat) (j:Nat) (v:SV) (u:List (Nat×Ch)):List (Nat×Ch):=
 match hop u path (aF0 v) with
 |some (c0,e0)=>match alB u c0 e0 with
  |some (.cells vs)=>match vs[j]? with
   |some (.own c e)=>match alB u c e with
    |some (.row t xs)=>cond (Nat.beq c c0) [] (aCz c0 e0 vs j c e t xs)
    |_=> []
   |_=> []
  |_=> []
 |none=> []
def Out.aH0 (path:List Nat) (j:Nat):Out->Out
 |.ret e=>.ret ⟨e.v,e.upd++aHl path j e.v e.upd⟩
 |.pan v u=>.pan v u
def rV (path:List Nat) (j:Nat) (s:bx):bx:=⟨s.mod,λd args hp=>(s.f d args hp).map (Out.aH0 path j)⟩
theorem ak9 {R R':Ctx} {w:World} {path:List Nat} {j:Nat} {v:SV} {u:List (Nat×Ch)} (h:dL R R' w u):∃ R1,dL R' R1 w (aHl path j v u):=by
 unfold aHl
 split
 ·rename_i c0 e0 _
  split
  ·rename_i vs h0
   split
   ·rename_i c e hj
    split
    ·rename_i t xs hc
     cases hb:Nat.beq c c0
     ·have hne:c≠c0:=λe=>by subst e;simp at hb
      exact MR h.mem (by rw [h.hp];exact NG h0) hj (by rw [h.hp];exact NG hc) hne
     ·exact ⟨R',dL.nothing h.mem⟩
    ·exact ⟨R',dL.nothing h.mem⟩
   ·exact ⟨R',dL.nothing h.mem⟩
  ·exact ⟨R',dL.nothing h.mem⟩
 ·exact ⟨R',dL.nothing h.mem⟩
theorem uL {P:Program} {f:FuncId} {s:bx} {path:List Nat} {j:Nat} (h:aa P f s):aa P f (rV path j s):=by
 refine ⟨λR w d args vs out hm hr hrun=> ?_⟩
 simp only [rV] at hrun
 obtain ⟨out',h1,rfl⟩:=OT.run_map hrun
 have hpost:∀ en w',iH R out' en w'->iH R (Out.aH0 path j out') en w':=λen w' hp=>by
  cases out' with
  |ret q=>
   obtain ⟨v,R',h2,h3,h4⟩:=hp
   obtain ⟨R1,h5⟩:=ak9 (path:=path) (j:=j) (v:=q.v) h3
   exact ⟨v,R1,h2,h3.trans h5,SV.aaB h5.ext _ _ h4⟩
  |pan q u=>exact hp
 rcases h.calls R w d args vs out' hm hr h1 with ⟨fn,f1,f2,f3,hcl⟩|⟨v,w',hv,hp⟩
 ·exact .inl ⟨fn,f1,f2,f3,hcl.mono hpost⟩
 ·exact .inr ⟨v,w',hv,hpost _ _ hp⟩
theorem ng {s:bx} {path:List Nat} {j:Nat} (h:ax s):ax (rV path j s):=λd args hp hp' out hg hrun=>by
 simp only [rV] at hrun⊢
 obtain ⟨out',h1,rfl⟩:=OT.run_map hrun
 exact Dw (h d args hp hp' out' hg h1)
def atm (s0 s1:bx):bx:=⟨s0.mod||s1.mod,λd args hp=>match args.getD 0 .gu with
 |.ptr _ _ _ 1=>s1.f d args hp
 |_=>s0.f d args hp⟩
theorem ay2 {P:Program} {f:FuncId} {s0 s1:bx} (h0:aa P f s0) (h1:aa P f s1):aa P f (atm s0 s1):=by
 refine ⟨λR w d args vs out hm hr hrun=> ?_⟩
 simp only [atm] at hrun
 split at hrun
 ·exact h1.calls R w d args vs out hm hr hrun
 ·exact h0.calls R w d args vs out hm hr hrun
theorem am9 {s0 s1:bx} (h0:ax s0) (h1:ax s1):ax (atm s0 s1):=λd args hp hp' out hg hrun=>by
 simp only [atm] at hrun⊢
 split at hrun
 ·exact h1 d args hp hp' out hg hrun
 ·exact h0 d args hp hp' out hg hrun
def CZ (k:Nat) (s:bx):bx:=⟨true,λd args hp=>match args.getD k .gu with
 |.own c e=>match eu hp c e with
  |some (.row t xs)=>(s.f d (args.set k (.lst t xs)) (cO hp [(c,⟨e+1,.row .u8 []⟩)])).map (Out.after [(c,⟨e+1,.row .u8 []⟩)])
  |some _=>s.f d args hp
  |none=>.fail
 |_=>s.f d args hp⟩
theorem MS {P:Program} {f:FuncId} {s:bx} {k:Nat} (h:aa P f s):aa P f (CZ k s):=by
 refine ⟨λR w d args vs out hm hr hrun=> ?_⟩
 simp only [CZ] at hrun
 split at hrun
 ·rename_i c e harg
  split at hrun
  ·rename_i t xs hc
   obtain ⟨out',h1,rfl⟩:=OT.run_map hrun
   obtain ⟨R1,ha,hrel⟩:=aeR hm (bT hc)
   rw [<-show R1.hp=cO R.hp [(c,⟨e+1,.row .u8 []⟩)] from ha.hp] at h1
   have hr1:SV.bz R1 (args.set k (.lst t xs)) vs:=C6 k _ (SV.eZ ha.ext _ _ hr) λv hv=>by
    have hk:args[k]? =some (.own c e):=by
     rw [fP] at harg
     cases hq:args[k]? with
     |none=>rw [hq] at harg;cases harg
     |some y=>rw [hq] at harg;exact congrArg some harg
    obtain ⟨v',hv',hvr⟩:=aaC hr hk
    rw [hv] at hv'
    cases hv'
    simp only [SV.rel] at hvr
    exact hrel v hvr.2
   have hpost:∀ en w',iH R1 out' en w'->iH R (Out.after [(c,⟨e+1,.row .u8 []⟩)] out') en w':=λen w' hp=>by
    cases out' with
    |ret q=>
     obtain ⟨v,R',h2,h3,h4⟩:=hp
     exact ⟨v,R',h2,ha.trans h3,h4⟩
    |pan q u=>
     obtain ⟨v,R',h2,h3,h4⟩:=hp
     exact ⟨v,R',h2,ha.trans h3,h4⟩
   rcases h.calls R1 w d _ vs out' ha.mem hr1 h1 with ⟨fn,f1,f2,f3,hcl⟩|⟨v,w',hv,hp⟩
   ·exact .inl ⟨fn,f1,f2,f3,hcl.mono hpost⟩
   ·exact .inr ⟨v,w',hv,hpost _ _ hp⟩
  ·exact h.calls R w d args vs out hm hr hrun
  ·cases hrun
 ·exact h.calls R w d args vs out hm hr hrun
theorem EW {s:bx} {k:Nat} (h:ax s):ax (CZ k s):=λd args hp hp' out hg hrun=>by
 simp only [CZ] at hrun⊢
 split at hrun
 ·split at hrun
  ·rename_i t xs hc
   rw [bO hg hc]
   simp only
   obtain ⟨out',h1,rfl⟩:=OT.run_map hrun
   refine Dw (h d _ _ _ out' ⟨λn ch hn=> ?_,λn hn hn0=> ?_⟩ h1)
   ·simp only [cO] at hn⊢
    split
    ·rename_i h2;rw [if_pos h2] at hn;exact hn
    ·rename_i h2;rw [if_neg h2] at hn;exact hg.mB _ _ hn
   ·simp only [cO] at hn0⊢
    split
    ·rename_i h2;rw [if_pos h2] at hn0;cases hn0
    ·rename_i h2;rw [if_neg h2] at hn0;exact hg.free _ hn hn0
  ·rename_i b hnr hc
   rw [bO hg hc]
   cases b<;>first|exact h _ _ _ _ _ hg hrun|exact absurd rfl (hnr _ _)
  ·cases hrun
 ·exact h _ _ _ _ _ hg hrun
end Sx
end
section
namespace Sx
open Go
def Ctx.tv (R:Ctx) (c:Nat) (ch:Ch) (b:Nat) (o:Obj):Ctx:=
 ⟨λb'=>if b'=b then some o else R.F b',R.U,R.σ,λc'=>if c'=c then some ch else R.hp c'⟩
theorem N0 {R:Ctx} {w:World} (hm:cz R w) {c e:Nat} {t:Ty} {xs:List t.T} (hc:R.hp c=some ⟨e,.row t xs⟩):∃ R1,dL R R1 w [(c,⟨e,.frz t xs⟩)]:=by
 have h0:=hm.ch c _ hc
 cases hσ:R.σ c with
 |none=>
  simp only [eW,hσ] at h0
  obtain ⟨hpos,hl,rfl⟩:=h0
  have hx:R.Ext (R.upd c ⟨e,.frz t []⟩):=⟨λ_ _ h=>h,rfl,λc' ch' hc'=>by
   by_cases h1:c'=c
   ·subst h1
    rw [hc] at hc'
    cases hc'
    exact ⟨⟨e,.frz t []⟩,by simp only [Ctx.upd,if_true],Nat.le_refl e,λ_=>⟨rfl,rfl⟩⟩
   ·exact ⟨ch',by simp only [Ctx.upd,if_neg h1,hc'],Nat.le_refl _,λ_=>⟨rfl,rfl⟩⟩⟩
  refine ⟨R.upd c ⟨e,.frz t []⟩,hx,rfl,?_⟩
  refine cz.turn hm hx rfl rfl (λ_ _=>rfl) w.heap.size (λ_ _ _=>rfl) ⟨hm.MJ,hm.MG,λn ch L hn h1 h2 h3=> ?_⟩ ?_ (λL h2=> ?_)
  ·have:=hm.lt h1 h2 h3;omega
  ·simp only [eW,Ctx.upd,hσ]
   exact ⟨hpos,hl,trivial⟩
  ·have h2:R.σ c=some L:=h2
   rw [hσ] at h2;cases h2
 |some L=>
  simp only [eW,hσ] at h0
  obtain ⟨hpos,hl,hF,hU,arr,E,k1,k2,k3,k4⟩:=h0
  have hx:R.Ext (R.tv c ⟨e,.frz t xs⟩ L.block (.cells arr E (0,0))):=⟨λb o' h=>by
   have:b≠L.block:=λe'=>by rw [e',hF] at h;cases h
   simp only [Ctx.tv,if_neg this,h],rfl,λc' ch' hc'=>by
    by_cases h1:c'=c
    ·subst h1
     rw [hc] at hc'
     cases hc'
     exact ⟨⟨e,.frz t xs⟩,by simp only [Ctx.tv,if_true],Nat.le_refl e,λ_=>⟨rfl,rfl⟩⟩
    ·exact ⟨ch',by simp only [Ctx.tv,if_neg h1,hc'],Nat.le_refl _,λ_=>⟨rfl,rfl⟩⟩⟩
  refine ⟨R.tv c ⟨e,.frz t xs⟩ L.block (.cells arr E (0,0)),hx,rfl,λb o' h=> ?_,λb o' h=>hm.U b o' h,λc' ch' hc'=> ?_,λc1 c2 ch1 ch2 L1 L2 g1 g2 g3 g4 g5 g6 g7=> ?_,λb o' h=> ?_,hm.env⟩
  ·simp only [Ctx.tv] at h
   split at h
   ·rename_i h1
    subst h1
    rw [k1];exact h
   ·exact hm.F b o' h
  ·by_cases h1:c'=c
   ·subst h1
    simp only [Ctx.tv,if_true] at hc'
    cases hc'
    simp only [eW,Ctx.tv,hσ]
    exact ⟨hpos,hl,arr,E,(0,0),by simp only [if_true],k2,k3,λi hi=>bR hx.F _ _ _ (k4 i hi)⟩
   ·simp only [Ctx.tv,if_neg h1] at hc'
    have hch:=hm.ch c' ch' hc'
    have hs:(R.tv c ⟨e,.frz t xs⟩ L.block (.cells arr E (0,0))).σ c'=R.σ c':=rfl
    have hblk:∀ L',R.σ c'=some L'->ch'.body.mut=true->L'.block≠L.block:=λL' h2 h3 h4=>h1 (hm.apart c' c _ _ _ _ hc' hc h3 rfl h2 hσ h4)
    have hFn:∀ b,b≠L.block->R.F b=none->(R.tv c ⟨e,.frz t xs⟩ L.block (.cells arr E (0,0))).F b=none:=λb h2 h3=>by simp only [Ctx.tv,if_neg h2,h3]
    obtain ⟨ep,body⟩:=ch'
    cases body with
    |row t ys=>
     simp only [eW] at hch⊢
     rw [hs]
     refine ⟨hch.1,hch.2.1,?_⟩
     replace hch:=hch.2.2
     cases hL:R.σ c' with
     |none=>rw [hL] at hch;exact hch
     |some L'=>
      rw [hL] at hch
      obtain ⟨c1,c2,arr,E,c3,c4,c5,c6⟩:=hch
      have hne:=hblk L' hL rfl
      exact ⟨hFn _ hne c1,c2,arr,E,c3,c4,c5,λi hi=>bR hx.F _ _ _ (c6 i hi)⟩
    |frz t ys=>
     simp only [eW] at hch⊢
     rw [hs]
     refine ⟨hch.1,hch.2.1,?_⟩
     replace hch:=hch.2.2
     cases hL:R.σ c' with
     |none=>rw [hL] at hch;exact hch
     |some L'=>
      rw [hL] at hch
      obtain ⟨arr,E,fz,c3,c4,c5,c6⟩:=hch
      exact ⟨arr,E,fz,hx.F _ _ c3,c4,c5,λi hi=>bR hx.F _ _ _ (c6 i hi)⟩
    |cells vs=>
     simp only [eW] at hch⊢
     obtain ⟨L',hL,c1,c2,arr,E,c3,c4,c5,c6,c7⟩:=hch
     have hne:=hblk L' hL rfl
     exact ⟨L',by rw [hs];exact hL,hFn _ hne c1,c2,arr,E,c3,c4,c5,SV.eZ hx _ _ c6,c7⟩
  ·by_cases h1:c1=c
   ·subst h1
    simp only [Ctx.tv,if_true] at g1
    cases g1
    cases g3
   ·by_cases h2:c2=c
    ·subst h2
     simp only [Ctx.tv,if_true] at g2
     cases g2
     cases g4
    ·simp only [Ctx.tv,if_neg h1] at g1
     simp only [Ctx.tv,if_neg h2] at g2
     exact hm.apart _ _ _ _ _ _ g1 g2 g3 g4 g5 g6 g7
  ·simp only [Ctx.tv] at h
   split at h
   ·rename_i h1
    subst h1
    exact hU
   ·exact hm.FU b o' h
def Ke (k j:Nat) (s:bx):bx:=⟨true,λd args hp=>match args.getD k .gu with
 |.agg vs=>match vs.getD j .gu with
  |.own c e=>match eu hp c e with
   |some (.row t xs)=>(s.f d args (cO hp [(c,⟨e,.frz t xs⟩)])).map (Out.after [(c,⟨e,.frz t xs⟩)])
   |some _=>s.f d args hp
   |none=>.fail
  |_=>s.f d args hp
 |_=>s.f d args hp⟩
theorem Kd {P:Program} {f:FuncId} {s:bx} {k j:Nat} (h:aa P f s):aa P f (Ke k j s):=by
 refine ⟨λR w d args vs out hm hr hrun=> ?_⟩
 simp only [Ke] at hrun
 split at hrun
 ·split at hrun
  ·rename_i c e hce
   split at hrun
   ·rename_i t xs hc
    obtain ⟨out',h1,rfl⟩:=OT.run_map hrun
    obtain ⟨R1,ha⟩:=N0 hm (bT hc)
    rw [<-show R1.hp=cO R.hp [(c,⟨e,.frz t xs⟩)] from ha.hp] at h1
    have hr1:SV.bz R1 args vs:=SV.eZ ha.ext _ _ hr
    have hpost:∀ en w',iH R1 out' en w'->iH R (Out.after [(c,⟨e,.frz t xs⟩)] out') en w':=λen w' hp=>by
     cases out' with
     |ret q=>
      obtain ⟨v,R',h2,h3,h4⟩:=hp
      exact ⟨v,R',h2,ha.trans h3,h4⟩
     |pan q u=>
      obtain ⟨v,R',h2,h3,h4⟩:=hp
      exact ⟨v,R',h2,ha.trans h3,h4⟩
    rcases h.calls R1 w d _ vs out' ha.mem hr1 h1 with ⟨fn,f1,f2,f3,hcl⟩|⟨v,w',hv,hp⟩
    ·exact .inl ⟨fn,f1,f2,f3,hcl.mono hpost⟩
    ·exact .inr ⟨v,w',hv,hpost _ _ hp⟩
   ·exact h.calls R w d args vs out hm hr hrun
   ·cases hrun
  ·exact h.calls R w d args vs out hm hr hrun
 ·exact h.calls R w d args vs out hm hr hrun
theorem zk {s:bx} {k j:Nat} (h:ax s):ax (Ke k j s):=λd args hp hp' out hg hrun=>by
 simp only [Ke] at hrun⊢
 split at hrun
 ·split at hrun
  ·split at hrun
   ·rename_i t xs hc
    rw [bO hg hc]
    simp only
    obtain ⟨out',h1,rfl⟩:=OT.run_map hrun
    refine Dw (h d _ _ _ out' ⟨λn ch hn=> ?_,λn hn hn0=> ?_⟩ h1)
    ·simp only [cO] at hn⊢
     split
     ·rename_i h2;rw [if_pos h2] at hn;exact hn
     ·rename_i h2;rw [if_neg h2] at hn;exact hg.mB _ _ hn
    ·simp only [cO] at hn0⊢
     split
     ·rename_i h2;rw [if_pos h2] at hn0;cases hn0
     ·rename_i h2;rw [if_neg h2] at hn0;exact hg.free _ hn hn0
   ·rename_i b hnr hc
    rw [bO hg hc]
    cases b<;>first|exact h _ _ _ _ _ hg hrun|exact absurd rfl (hnr _ _)
   ·cases hrun
  ·exact h _ _ _ _ _ hg hrun
 ·exact h _ _ _ _ _ hg hrun
end Sx
end
section
namespace Sx
open Go
section
variable {P:Program} {te:TE} {Φ:Env} (hte:kq P te) (hΦ:oa P Φ) (hany:Gi P te Φ)
include hte hΦ hany
omit hte hΦ hany
def vV:bx:=⟨false,λ_ args hp=>match args with
 | [.own c e]=>match eu hp c e with
  |some (.row .u8 xs)=>.br (decide (0<xs.length)) (.ok (.ret ⟨.clip c e,[]⟩)) .fail
  |_=>.fail
 |_=>.fail⟩
theorem asZ:ax vV:=λd args hp hp' out hg hrun=>by
 simp only [vV] at hrun⊢
 split at hrun
 ·split at hrun
  ·rename_i xs hx
   simp only [bO hg hx]
   exact hrun
  ·cases hrun
 ·cases hrun
include hte hΦ hany
theorem aEx {f:FuncId} {fn:Func} {c:Code} (hf:P.funcs[f]? =some fn) (hb:fn.body=some c) (hname:(fn.name== "runtime.NumGoroutine")=false) (hΛ:∀ R,rJ P R fR c) {n:Nat}
 (h:∀ (hp:Hp) (c e:Nat) (xs:List UInt8) (K:SV->Hp->Prop),eu hp c e=some (.row .u8 xs)->0<xs.length->K (.clip c e) hp->wpf te Φ fR n fn [.own c e] hp K (λ_ _=>False)):aa P f vV:=by
 refine ⟨λR w d args vs out hm hr hrun=>.inl ⟨fn,hf,hname,by rw [hb];rfl,?_⟩⟩
 simp only [vV] at hrun
 split at hrun
 ·split at hrun
  ·rename_i c e _ xs hx
   cases hlen:decide (0<xs.length)
   ·rw [hlen] at hrun;cases hrun
   rw [hlen] at hrun
   cases hrun
   refine (Hj (R:=R.put []) (n:=n) (K:=λv hp=>v=.clip c e/\hp=R.hp) (Kp:=λ_ _=>False) hte hΦ hany hf hb (hΛ _) rfl (aaO _ hm) (Gy _ hr) (h _ _ _ xs _ hx (bn hlen) ⟨rfl,rfl⟩)).mono λen w' hp=> ?_
   rcases hp with ⟨x,v,R₁,rfl,hx1,hm1,hv,rfl,hy⟩|⟨x,v,R₁,rfl,hx1,hm1,hv,hy⟩
   ·exact ⟨v,_,rfl,apt (l:= []) ⟨hx1,hy,hm1⟩,aps _ hv⟩
   ·exact hy.elim
  ·cases hrun
 ·cases hrun
end
theorem gz {te:TE} {Φ:Env} {ops:List Oper} {K:SE->St->Prop} {o:Oper} {r:List Oper} {tm tm':List SV} {hp:Hp} (v:SV) (hg:guarded ops tm o=some true) (hc:(L9 te Φ hp (o.dst.getD 100000) (St.eval ⟨tm,hp⟩) o.op).run=some (.ret ⟨v,[]⟩))
 (ht:C7 ⟨tm,hp⟩ o.dst v=tm') (h:io te Φ ops K r ⟨tm',hp⟩):io te Φ ops K (o::r) ⟨tm,hp⟩:=by
 subst ht
 simp only [io,hg]
 exact OT.iV hc h
theorem aB8 {te:TE} {Φ:Env} {Λ:Lam} {n i j:Nat} {a b:Array Oper} {st:St} {K:SE->St->Prop}:wps te Φ Λ (n+3) (.seq (.region i a false) (.seq (.region j b false) .ret)) st K=
 mG te Φ a.toList (λe st=>match e with
  |.normal=>mG te Φ b.toList (λe st=>match e with
   |.normal=>K .ret st
   |e=>K e st) b.toList st
  |e=>K e st) a.toList st:=rfl
end Sx
end
section
namespace Sx
open Go
def axs (args:List SV) (hp:Hp) (a k:Nat):Option Bool:=match args.getD a .gu with
 |.ptr c _ _ off=>match hp c with
  |some ⟨_,.cells vs⟩=>match vs.getD (off+k) .gu with
   |.lst _ _=>some true
   |_=>some false
  |_=>none
 |_=>none
theorem abF {d:Nat} {hp hp':Hp} (hg:Grown d hp hp') {args:List SV} {a k:Nat} {t:Bool} (h:axs args hp a k=some t):axs args hp' a k=some t:=by
 unfold axs at h⊢
 split at h
 ·split at h
  ·rename_i e vs hc
   rw [hg.mB _ _ hc]
   exact h
  ·cases h
 ·cases h
def ana (a k:Nat) (s0 s1:bx):bx:=⟨s0.mod||s1.mod,λd args hp=>match axs args hp a k with
 |some t=>cond t (s1.f d args hp) (s0.f d args hp)
 |none=>.fail⟩
theorem ahP {P:Program} {f:FuncId} {a k:Nat} {s0 s1:bx} (h0:aa P f s0) (h1:aa P f s1):aa P f (ana a k s0 s1):=by
 refine ⟨λR w d args vs out hm hr hrun=> ?_⟩
 simp only [ana] at hrun
 split at hrun
 ·rename_i t ht
  cases t
  ·exact h0.calls R w d args vs out hm hr hrun
  ·exact h1.calls R w d args vs out hm hr hrun
 ·cases hrun
theorem OC {a k:Nat} {s0 s1:bx} (h0:ax s0) (h1:ax s1):ax (ana a k s0 s1):=λd args hp hp' out hg hrun=>by
 simp only [ana] at hrun⊢
 split at hrun
 ·rename_i t ht
  rw [abF hg ht]
  dsimp only
  cases t
  ·exact h0 d args hp hp' out hg hrun
  ·exact h1 d args hp hp' out hg hrun
 ·cases hrun
end Sx
end
end Go.Proofs.YthnnknnbfhkomaaGreat
