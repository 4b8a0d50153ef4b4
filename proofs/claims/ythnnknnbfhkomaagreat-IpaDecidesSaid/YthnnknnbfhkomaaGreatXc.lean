/- A symbolic machine for Go code over plain data, and functions of the program as it shows them. No statement is proved in this file. -/
import Derived.Recover
import Derived.KernelRfl
import Derived.Test.YthnnknnbfhkomaaGreatProg
import Derived.Laws.Externs
import Derived.Lib.Mul64
import Derived.Test.YthnnknnbfhkomaaGreatXb
set_option linter.unusedSimpArgs false
set_option linter.unusedVariables false
set_option linter.unusedSectionVars false
namespace Go.Proofs.YthnnknnbfhkomaaGreat
section
namespace Sx
open Go
theorem akm {R:Ctx} {w:World} (hm:cu R w) {c e:Nat} {t:Ty} {xs:List t.T} (hc:R.hp c=some ⟨e,.row t xs⟩) {n:Nat} (hn:n<=xs.length):
 ∃ R1,R.Ext R1/\cu R1 w/\R1.hp=cG R.hp [(c,⟨e+1,.row t (xs.take n)⟩)]/\∀ v,R.part c e 0 n v->R1.own c (e+1) v:=by
 have h0:=hm.ch c _ hc
 have hlen:(xs.take n).length=n:=by grind
 have hx:R.Ext (R.upd c ⟨e+1,.row t (xs.take n)⟩):=⟨λ_ _ h=>h,rfl,λc' ch' hc'=>by
  grind [Ctx.upd]⟩
 have hnew:(R.upd c ⟨e+1,.row t (xs.take n)⟩).hp c=some ⟨e+1,.row t (xs.take n)⟩:=by grind [Ctx.upd]
 refine ⟨R.upd c ⟨e+1,.row t (xs.take n)⟩,hx,?_,rfl,λv hv=> ?_⟩
 ·cases hσ:R.σ c with
  |none=>
   simp only [eG,hσ] at h0
   obtain ⟨hpos,hl,rfl⟩:=h0
   refine cu.turn hm hx rfl rfl (λ_ _=>rfl) w.heap.size (by grind) ⟨hm.Mj,hm.Mg,λn ch L hn h1 h2 h3=> ?_⟩ ?_ (λL h2=> ?_)
   ·have:=hm.lt h1 h2 h3;omega
   ·grind [eG,Ctx.upd]
   ·have h2:R.σ c=some L:=h2
    grind
  |some L=>
   simp only [eG,hσ] at h0
   obtain ⟨hpos,hl,hF,hU,arr,E,k1,k2,k3,k4⟩:=h0
   refine cu.turn hm hx rfl rfl (λ_ _=>rfl) L.block (by grind) ⟨hF,hU,λm ch L' hne h1 h2 h3 hb=> ?_⟩ ?_ (λL' h2=> ?_)
   ·exact hne (hm.apart m c ch _ L' L h1 hc h2 rfl h3 hσ hb)
   ·simp only [eG,Ctx.upd,hσ]
    refine ⟨hpos,by grind,hF,hU,arr,E,k1,k2,?_,λi hi=> ?_⟩
    ·rw [hlen]
     exact gC (cf _ hn) k3
    ·grind
   ·have h2:R.σ c=some L':=h2
    grind
 ·obtain ⟨h1,h2,ad,cap,rfl,h4,h5⟩:=Ctx.cD hc hv
  refine ⟨_,hnew,Nat.le_refl _,λ_=>⟨_,hnew,Nat.le_refl _,λ_=>⟨rfl,?_,ad,cap,?_,?_,?_⟩⟩⟩
  ·simp
  ·show Value.slice ad n cap=.slice ad (xs.take n).length cap
   rw [hlen]
  ·show (xs.take n).length<=cap
   omega
  ·exact h5
def ahw:List SV->Option (Nat×Nat×Nat)
 | []=>none
 |.part c e 0 n::_=>some (c,e,n)
 |_::r=>ahw r
def Ka:List SV->List SV
 | []=> []
 |.part c e 0 _::r=>.own c (e+1)::r
 |x::r=>x::Ka r
def as5 (K:SV->Hp->Prop) (l r:List SV) (hp:Hp):Prop:=match ahw l with
 |some (c,e,n)=>match dZ hp c e with
  |some (.row t xs)=>cond (Nat.ble n xs.length) (K (.tup (.agg (Ka l)::r)) (cG hp [(c,⟨e+1,.row t (xs.take n)⟩)])) False
  |_=>False
 |none=>K (.tup (.agg l::r)) hp
def aEH (K:SV->Hp->Prop) (v:SV) (hp:Hp):Prop:=match v with
 |.tup (.agg l::r)=>as5 K l r hp
 |v=>K v hp
theorem amU {K K':SV->Hp->Prop} (h:∀ v hp,K v hp->K' v hp) {l r:List SV} {hp:Hp} (hk:as5 K l r hp):as5 K' l r hp:=by
 unfold as5 at hk⊢
 split at hk
 ·grind
 grind
theorem as4 {K K':SV->Hp->Prop} (h:∀ v hp,K v hp->K' v hp) {v:SV} {hp:Hp} (hk:aEH K v hp):aEH K' v hp:=by
 unfold aEH at hk⊢
 grind [amU]
theorem NT {R R1:Ctx} (hx:R.Ext R1) {c e n:Nat} (ho:∀ v,R.part c e 0 n v->R1.own c (e+1) v):∀ {l:List SV} {vs:List Value},ahw l=some (c,e,n)->SV.bx R l vs->SV.bx R1 (Ka l) vs
 | [],_,h,_=>by cases h
 |x::l,vs,h,hr=>by
  obtain ⟨v,r,rfl,hv,hr⟩:=hr
  unfold ahw at h
  split at h
  ·grind
  ·grind [SV.rel,Ka,SV.bx,SV.eH]
  ·rename_i x' r' hno h1
   cases h1
   have e1:Ka (x::l)=x::Ka l:=Ka.eq_3 _ _ hno
   rw [e1]
   exact ⟨v,r,rfl,SV.aap hx _ _ hv,NT hx ho h hr⟩
theorem aEG {R:Ctx} {w:World} {K:SV->Hp->Prop} {v:SV} {u:Value} (hm:cu R w) (hv:SV.rel R v u) (hk:aEH K v R.hp):∃ v' R1,R.Ext R1/\cu R1 w/\SV.rel R1 v' u/\K v' R1.hp:=by
 unfold aEH at hk
 split at hk
 ·unfold as5 at hk
  split at hk
  ·rename_i c e n hc
   split at hk
   ·rename_i t xs hg
    cases hb:Nat.ble n xs.length
    ·grind
    ·rw [hb] at hk
     obtain ⟨R1,a1,a2,a3,a4⟩:=akm hm (bP hg) (Nat.le_of_ble_eq_true hb)
     refine ⟨_,R1,a1,a2,?_,by rw [a3];exact hk⟩
     obtain ⟨vs,rfl,v1,r1,rfl,⟨us,rfl,h1,h2⟩,h3⟩:=hv
     exact ⟨_,rfl,_,r1,rfl,⟨us,rfl,NT a1 a4 hc h1,h2⟩,SV.eH a1 _ _ h3⟩
   grind
  grind [Ctx.Ext.refl]
 grind [Ctx.Ext.refl]
section
variable {P:Program} {te:TE} {Φ:Env} (hte:kH P te) (hΦ:nW P Φ) (hany:FP P te Φ)
include hte hΦ hany
theorem aEf {f:FuncId} {fn:Func} {c:Code} (hf:P.funcs[f]? =some fn) (hb:fn.body=some c) (hname:(fn.name== "runtime.NumGoroutine")=false) {S:af} {k:Nat} (hk:S.chunks.all (λc=>Nat.blt c.1 k&& !c.2.iz)=true) {Λ:Lam}
 (hΛ:∀ R,Small R k->rH P R Λ c) {n:Nat} {pre:S.T->Bool} {F:S.T->OT S.Y}
 (h:∀ x oy,pre x=true->(F x).run=some oy->∃ K,wpf te Φ Λ n fn (S.inp.inj x).tm (S.inp.inj x).hp K (λ_ _=>False)/\(∀ v hp,K v hp->aEH (λv hp=>oy.1.is oy.2 false v hp) v hp)):aa P f (S.aw pre F):=by
 refine ⟨?_⟩
 intro R w d args vs out hm hr hrun
 refine .inl ⟨fn,hf,hname,(by grind),?_⟩
 simp [af.aw] at hrun
 split at hrun
 ·cases hrun
 ·rename_i x hx
  obtain ⟨hpre,h2⟩:=OT.aD hrun
  obtain ⟨oy,h3,h4⟩:=OT.run_bind h2
  unfold af.emit at h4
  obtain ⟨hend,h5⟩:=OT.aD h4
  obtain ⟨K,hwp,hK1⟩:=h x oy hpre h3
  have hx':=hx
  unfold Shape.prj at hx'
  dsimp only at hx'
  cases hbo:S.inp.KT ⟨args,R.hp⟩ (S.inp.bd ⟨args,R.hp⟩)&&Nat.beq args.length S.inp.n
  ·grind
  ·rw [hbo] at hx'
   rw [av] at hbo
   obtain ⟨hx1,hx2⟩:=aU hx'
   have hlen:args.length=S.inp.n:=aX hbo.2
   have hN:=F7 (s:=S.inp) (st:=⟨args,R.hp⟩) (F':=R.A4 (S.inp.bd ⟨args,R.hp⟩) S.bF w) (U':=R.Gg (S.inp.bd ⟨args,R.hp⟩) S.bF w) hbo.1 hx2 rfl hm (Jf hm) (Du hm) acd (Je hm) Jd arl hm.env
   have hargs:SV.bx (R.named (R.A4 (S.inp.bd ⟨args,R.hp⟩) S.bF w) (R.Gg (S.inp.bd ⟨args,R.hp⟩) S.bF w) (S.inp.bd ⟨args,R.hp⟩) (dH S.chunks x.2)) (S.inp.inj x).tm vs:=
    kk (s:=S.inp) (st:=⟨args,R.hp⟩) hbo.1 hx2 rfl hm (Jf hm) (Du hm) hr hx1 (SV.py (by grind [SV.aJ]) λi hi hi'=>by simp [SV.rel])
   have hsm:Small (R.named (R.A4 (S.inp.bd ⟨args,R.hp⟩) S.bF w) (R.Gg (S.inp.bd ⟨args,R.hp⟩) S.bF w) (S.inp.bd ⟨args,R.hp⟩) (dH S.chunks x.2)) k:=λc ch hc=>by
    obtain ⟨s,y',g1,g2,g3⟩:=dL hx2 (hc:dH S.chunks x.2 c=some ch)
    have:=(List.all_eq_true.1 hk) _ g1
    simp only [av] at this
    refine ⟨db this.1,?_⟩
    rw [g3]
    cases s<;>first|rfl|(cases this.2)
   refine (GN hte hΦ hany hf hb (hΛ _ hsm) rfl hN hargs hwp).mono λen w' hp=> ?_
   rcases hp with ⟨y,v,R₁,rfl,hx1,hm1,hv,hy⟩|⟨y,v,R₁,rfl,hx1,hm1,hv,hy⟩
   ·replace hy:=hK1 _ _ hy
    obtain ⟨y2,R₂,b1,b2,b4,hy⟩:=aEG hm1 hv hy
    obtain ⟨R',a1,a2⟩:=ahb hm hx hk (hx1.trans b1) b2 b4 hy hend
    rw [hy.1] at h5
    cases h5
    exact ⟨v,R',rfl,a1,a2⟩
   grind
def aHU (S:af) (sel:SV->Option aH) (Q:S.Y->Prop) (v:SV) (hp:Hp):Prop:=aEH (fnK S sel Q) v hp
theorem ayI {f:FuncId} {fn:Func} {c:Code} (hf:P.funcs[f]? =some fn) (hb:fn.body=some c) (hname:(fn.name== "runtime.NumGoroutine")=false) {S:af} {k:Nat} (hk:S.chunks.all (λc=>Nat.blt c.1 k&& !c.2.iz)=true) {Λ:Lam}
 (hΛ:∀ R,Small R k->rH P R Λ c) {n:Nat} {sel:SV->Option aH} (hsel:∀ v o,sel v=some o->o.pan=false) {pre:S.T->Bool} {F T:S.T->OT S.Y}
 (h:∀ x Q,wpf te Φ Λ n fn (S.inp.inj x).tm (S.inp.inj x).hp (aHU S sel Q) (λ_ _=>False)=(T x).wpR Q)
 (hF:∀ x oy,pre x=true->(F x).run=some oy->(T x).run=some oy):aa P f (S.aw pre F):=by
 refine aEf hte hΦ hany hf hb hname hk hΛ (n:=n) λx oy hp hr=>⟨aHU S sel (λz=>z=oy),?_,λv hp hq=> ?_⟩
 ·grind [OT.Ez,OT.iH]
 ·refine as4 (λv hp hq=> ?_) hq
  unfold fnK at hq
  split at hq
  ·rename_i o ho
   split at hq
   ·rename_i y hy
    subst hq
    exact ⟨(by grind),hy⟩
   grind
  grind
end
end Sx
end
section
namespace Sx
open Go
def aEz:Code->Option (Array Oper×(List Oper×Call))
 |.region _ ops false=>match ops.toList.getLast? with
  |some o=>match o.op,o.guard,o.dst with
   |.defer c,none,none=>some (ops,(ops.toList.dropLast,c))
   |_,_,_=>none
  |none=>none
 |_=>none
def ay4 (st:St) (c:Call):Option (FuncId×List SV):=match c.callee with
 |.value x=>match st.eval x with
  |.fn (.func f) first caps=>some (f,first++c.args.toList.map st.eval++caps)
  |_=>none
 |_=>none
def aFa (te:TE) (Φ:Env):Nat->Code->List (FuncId×Nat)->List SV->St->(Code->List (FuncId×Nat)->List SV->St->Prop)->Prop:=
 λm=>Nat.rec (motive:=λ_=>Code->List (FuncId×Nat)->List SV->St->(Code->List (FuncId×Nat)->List SV->St->Prop)->Prop) (λc fs gs st K=>K c fs gs st)
  (λ_ go c fs gs st K=>match c with
   |.seq a b=>match aEz a with
    |some d=>mq te Φ d.1.toList (λe st'=>match e with
     |.normal=>match ay4 st' d.2.2 with
      |some (f,l)=>go b ((f,l.length)::fs) (l++gs) st' K
      |none=>False
     |_=>False) d.2.1 st
    |none=>match a with
     |.region _ ops false=>mq te Φ ops.toList (λe st'=>match e with
      |.normal=>go b fs gs st' K
      |_=>False) ops.toList st
     |_=>False
   |_=>False) m
structure anK where
 f:FuncId
 t:TypeId
 T:TypeId
 g:Func
 gf:FuncId
def EZ (te:TE) (Φ:Env) (n:Nat) (r:anK) (fn:Func) (K Kp:SV->Hp->Prop) (fs:List (FuncId×Nat)):List SV->Option SV->St->Prop:=
 List.rec (motive:=λ_=>List SV->Option SV->St->Prop)
  (λ_ m st=>match m with
   |none=>Al te fn st λv=>K v st.hp
   |some v=>Kp v st.hp)
  (λd _ go gs m st=>match Nat.beq d.1 r.f with
   |true=>match gs with
    |p::gs'=>ifB (Nat.beq d.2 1) (match m with
     |none=>go gs' none st
     |some v=>match v with
      |.iface t (.agg [.int x])=>ifB (Nat.beq t r.t) (match te r.T with
       |some ti=>ifB (Nat.beq ti.size 1) ((storeCells st.hp [.int x] p).wp λu=>go gs' none ⟨st.tm,cG st.hp u⟩) False
       |none=>False) False
      |_=>False) False
    | []=>False
   |false=>ifB (Nat.beq d.1 r.gf) (wpf te Φ fC n r.g (gs.take d.2) st.hp (λ_ hp=>go (gs.drop d.2) m ⟨st.tm,hp⟩) (λ_ _=>False)) False) fs
def aFq (te:TE) (Φ:Env) (Λ:Lam) (n:Nat) (r:anK) (m:Nat) (D:Shape) (fn:Func) (args:List SV) (hp:Hp) (K Kp:SV->Hp->Prop):Prop:=
 match fn.body with
 |none=>False
 |some c=>aFa te Φ m c [] [] ⟨args++List.replicate (fn.ntmps-args.length) .undef,hp⟩ λrest fs gs st=>D.on ⟨st.tm++gs,st.hp⟩ λx=>
  wps te Φ Λ n rest ⟨(D.inj x).tm.take st.tm.length,(D.inj x).hp⟩ λe st'=>match e with
   |.normal|.ret=>EZ te Φ n r fn K Kp fs ((D.inj x).tm.drop st.tm.length) none st'
   |.pan v=>EZ te Φ n r fn K Kp fs ((D.inj x).tm.drop st.tm.length) (some v) st'
   |.exit _=>False
theorem alK {te:TE} {Φ:Env} {n:Nat} {r:anK} {fn:Func} {K Kp:SV->Hp->Prop} {gs:List SV} {m:Option SV} {st:St}:EZ te Φ n r fn K Kp [] gs m st=(match m with
 |none=>Al te fn st λv=>K v st.hp
 |some v=>Kp v st.hp):=rfl
theorem abK {te:TE} {Φ:Env} {n:Nat} {r:anK} {fn:Func} {K Kp:SV->Hp->Prop} {f:FuncId} {k:Nat} {fs:List (FuncId×Nat)} {gs:List SV} {m:Option SV} {st:St}:EZ te Φ n r fn K Kp ((f,k)::fs) gs m st=(match Nat.beq f r.f with
 |true=>match gs with
  |p::gs'=>ifB (Nat.beq k 1) (match m with
   |none=>EZ te Φ n r fn K Kp fs gs' none st
   |some v=>match v with
    |.iface t (.agg [.int x])=>ifB (Nat.beq t r.t) (match te r.T with
     |some ti=>ifB (Nat.beq ti.size 1) ((storeCells st.hp [.int x] p).wp λu=>EZ te Φ n r fn K Kp fs gs' none ⟨st.tm,cG st.hp u⟩) False
     |none=>False) False
    |_=>False) False
  | []=>False
 |false=>ifB (Nat.beq f r.gf) (wpf te Φ fC n r.g (gs.take k) st.hp (λ_ hp=>EZ te Φ n r fn K Kp fs (gs.drop k) m ⟨st.tm,hp⟩) (λ_ _=>False)) False):=rfl
theorem avV {te:TE} {Φ:Env} {m:Nat} {x y:Code} {fs:List (FuncId×Nat)} {gs:List SV} {st:St} {K:Code->List (FuncId×Nat)->List SV->St->Prop}:aFa te Φ (m+1) (.seq x y) fs gs st K=(match aEz x with
 |some d=>mq te Φ d.1.toList (λe st'=>match e with
  |.normal=>match ay4 st' d.2.2 with
   |some (f,l)=>aFa te Φ m y ((f,l.length)::fs) (l++gs) st' K
   |none=>False
  |_=>False) d.2.1 st
 |none=>match x with
  |.region _ ops false=>mq te Φ ops.toList (λe st'=>match e with
   |.normal=>aFa te Φ m y fs gs st' K
   |_=>False) ops.toList st
  |_=>False):=rfl
structure Le (P:Program) (r:anK):Prop where
 fn:∃ fn,P.funcs[r.f]? =some fn/\(fn.name== "runtime.NumGoroutine")=false/\fn.body.isNone=false
 ret:∀ (v:Value) (w:World),CallsD P r.f #[v] .returning w λe u' w'=>e=.returned (.tuple #[])/\u'=.returning/\w'=w
 pan:∀ (ad:Addr) (x:Int) (w w':World),(storeVar r.T ad (.int .i64 x)).run P w=.ok () w'->
  CallsD P r.f #[.pointer (some ad)] (.panicking [{v:=.iface r.t (.agg #[.int .i64 x]),recovered:=false}]) w λe u' w''=>e=.returned (.tuple #[])/\u'=.panicking [{v:=.iface r.t (.agg #[.int .i64 x]),recovered:=true}]/\w''=w'
 gfn:P.funcs[r.gf]? =some r.g/\(r.g.name== "runtime.NumGoroutine")=false/\r.g.body.isNone=false
section
variable {P:Program} {te:TE} {Φ:Env}
def rD (R:Ctx):List (FuncId×Nat)->List SV->List Deferred->Prop
 | [],_,ds=>ds= []
 |(f,n)::fs,gs,ds=>∃ d r vs cap,ds=d::r/\d.target=.fn (.func f) cap/\d.args++cap=vs.toArray/\SV.bx R (gs.take n) vs/\rD R fs (gs.drop n) r
theorem rD.grow {R R':Ctx} (hx:R.aFp R'):∀ {fs:List (FuncId×Nat)} {gs:List SV} {ds:List Deferred},rD R fs gs ds->rD R' fs gs ds
 | [],_,_,h=>h
 |(f,n)::fs,gs,ds,⟨d,r,vs,cap,h1,h2,h3,h4,h5⟩=>⟨d,r,vs,cap,h1,h2,h3,SV.kf hx _ _ h4,rD.grow hx h5⟩
theorem rD.flat {R:Ctx}:∀ {fs:List (FuncId×Nat)} {gs:List SV} {ds:List Deferred},gs.length=(fs.map (·.2)).sum->rD R fs gs ds->∃ vs,SV.bx R gs vs/\∀ R' gs',gs'.length=gs.length->SV.bx R' gs' vs->rD R' fs gs' ds
 | [],gs,ds,hl,h=>by
  have:gs= []:=(by grind)
  subst this
  exact ⟨[],uG,λ_ _ _ _=>h⟩
 |(f,n)::fs,gs,ds,hl,⟨d,r,vs,cap,h1,h2,h3,h4,h5⟩=>by
  simp at hl
  obtain ⟨us,k1,k2⟩:=rD.flat (gs:=gs.drop n) (by grind) h5
  refine ⟨vs++us,by have:=SV.bz h4 k1;simp_all,λR' gs' hl' hr=> ?_⟩
  have hv:vs.length=n:=by grind [SV.aJ,fI]
  have t1:=SV.cP hr n
  have t2:=SV.cQ hr n
  rw [List.take_left' hv] at t1
  exact ⟨d,r,vs,cap,h1,h2,h3,t1,(by grind)⟩
theorem aEy {st:St} {R:Ctx} {a:Act} {w:World} (hst:iF R st a w) {o:Oper} {c:Call} (ho:o.op=.defer c) {f:FuncId} {l:List SV} (h:ay4 st c=some (f,l)):
 ∃ d vs cap,(execOp a.eval o).run P w=.ok (.defer d) w/\d.target=.fn (.func f) cap/\d.args++cap=vs.toArray/\SV.bx R l vs:=by
 unfold ay4 at h
 split at h
 ·rename_i x hx
  split at h
  ·rename_i g first caps hv
   cases h
   have e:=j6 hst x
   rw [hv] at e
   obtain ⟨l1,l2,e1,e2,e3⟩:=e
   refine ⟨{target:=.fn (.func f) l2.toArray,args:=l1.toArray++c.args.map a.eval},l1++c.args.toList.map a.eval++l2,l2.toArray,?_,rfl,?_,SV.bz (SV.bz e2 (Hy hst _)) e3⟩
   ·simp_all [execOp,resolve,Deferred.ofValue]
   simp
  grind
 ·grind
theorem Np {f:FuncId} {fn:Func} (hf:P.funcs[f]? =some fn) (hn:(fn.name== "runtime.NumGoroutine")=false) (hb:fn.body.isNone=false) {cap args vs:Array Value} (he:args++cap=vs) (w:World):
 (invoke (.fn (.func f) cap) args).run P w=.ok (.enter f vs) w:=by
 have f3':¬fn.body=none:=λe=>by grind
 simp_all [invoke,callFunc]
def aBG (R:Ctx):Option SV->FrameMode->Prop
 |none,u=>u=.returning
 |some v,u=>∃ y,u=.panicking [{v:=y,recovered:=false}]/\SV.rel R v y
theorem iF.same {R:Ctx} {st:St} {a:Act} {w:World} (l:List Deferred) (h:iF R st a w):iF (R.put l) st {a with defers:=l} w:=⟨h.hp,aaN l h.mem,F3 l h.tm,rfl⟩
theorem aDx {R R':Ctx} (l:List Deferred) (h:R.Ext R'):(R.put l).Ext (R'.put l):=⟨h.F,by show (⟨R'.U.blk,R'.U.env,l⟩:FN)=⟨R.U.blk,R.U.env,l⟩;rw [h.U],h.ch⟩
variable (hte:kH P te) (hΦ:nW P Φ) (hany:FP P te Φ)
include hte hΦ hany
theorem jL {r:anK} (hr:Le P r) {n:Nat} {fn:Func} {K Kp:SV->Hp->Prop} {R₀:Ctx}:∀ (fs:List (FuncId×Nat)) (gs:List SV) (ds:List Deferred) (m:Option SV) (u:FrameMode) (R:Ctx) (st:St) (a:Act) (w:World),R₀.Ext R->
 iF R st a w->rD R fs gs ds->aBG R m u->R.U.dfs= []->EZ te Φ n r fn K Kp fs gs m st->Leaves P fn a.tmps (Fv R₀ K Kp) ds u w
 | [],gs,ds,m,u,R,st,a,w,hx,hst,hd,hu,h0,h=>by
  cases hd
  rw [alK] at h
  cases m with
  |none=>
   cases hu
   obtain ⟨x,v,h1,h2,h3⟩:=j0 hte hst h
   exact ⟨v,h3,.inl ⟨x,v,R,rfl,hx,hst.mem,h2,by rw [hst.hp];exact h1⟩⟩
  |some sv=>
   obtain ⟨y,rfl,hy⟩:=hu
   exact .inr ⟨sv,y,R,rfl,hx,hst.mem,hy,by rw [hst.hp];exact h⟩
 |(f,k)::fs,gs,ds,m,u,R,st,a,w,hx,hst,hd,hu,h0,h=>by
  obtain ⟨d,rd,vs,cap,rfl,hd1,hd2,hd3,hd4⟩:=hd
  obtain ⟨dt,da⟩:=d
  simp only at hd1 hd2
  subst hd1
  have hur:u≠ .run:=by
   cases m with
   |none=>cases hu;exact λe=>by cases e
   |some v=>obtain ⟨y,rfl,_⟩:=hu;exact λe=>by cases e
  rw [abK] at h
  simp only [V4] at h
  cases hb:Nat.beq f r.f
  ·rw [hb] at h
   simp only at h
   cases hg:Nat.beq f r.gf
   ·rw [hg] at h;exact h.elim
   ·rw [hg,aV] at h
    have e:=aX hg
    subst e
    obtain ⟨g1,g2,g3⟩:=hr.gfn
    cases hbd:r.g.body with
    |none=>rw [hbd] at g3;cases g3
    |some c=>
     rw [<-hst.hp] at h
     have hw:=azZ hte hΦ hany hbd (λp _ l hl=>by cases hl) h0 hst.mem hd3 h
     refine leaves_cons hur (Np g1 g2 g3 hd2 w) ((callsD_of_wp (u:=u) g1 hbd hw).mono λe u' w' hp=> ?_)
     obtain ⟨rfl,hp⟩:=hp
     rcases hp with ⟨x,v,R',rfl,hx1,hm1,hv,hk⟩|⟨_,_,_,_,_,_,_,hk⟩
     ·have hu':aBG R' m u':=by
       cases m with
       |none=>exact hu
       |some sv=>obtain ⟨y,h1,h2⟩:=hu;exact ⟨y,h1,SV.aap hx1 _ _ h2⟩
      have hs:settle u'=u':=by
       cases m with
       |none=>cases hu;rfl
       |some sv=>obtain ⟨y,rfl,_⟩:=hu;rfl
      simp only [hs]
      exact jL hr fs _ rd m u' R' ⟨st.tm,R'.hp⟩ a w' (hx.trans hx1) ⟨rfl,hm1,SV.eH hx1 _ _ hst.tm,by rw [hx1.U];exact hst.defers⟩ (hd4.grow hx1.grow) hu' (by rw [hx1.U];exact h0) hk
     ·exact hk.elim
  ·rw [hb] at h
   simp only at h
   have e:=aX hb
   subst e
   obtain ⟨rfn,g1,g2,g3⟩:=hr.fn
   cases gs with
   |nil=>exact h.elim
   |cons p gs'=>
    simp only at h
    cases hk1:Nat.beq k 1
    ·rw [hk1] at h;exact h.elim
    ·have ek:=aX hk1
     subst ek
     obtain ⟨v,rfl,hv⟩:=bW hd3
     refine leaves_cons hur (Np g1 g2 g3 hd2 w) ?_
     cases m with
     |none=>
      cases hu
      refine (hr.ret v w).mono λe u' w' hp=> ?_
      obtain ⟨rfl,rfl,rfl⟩:=hp
      exact jL hr fs gs' rd none _ R st a w' hx hst hd4 rfl h0 h
     |some sv=>
      obtain ⟨y,rfl,hy⟩:=hu
      simp only at h
      split at h
      ·rename_i t x
       cases ht:Nat.beq t r.t
       ·rw [ht] at h;exact h.elim
       ·rw [ht,aV] at h
        have et:=aX ht
        subst et
        split at h
        ·rename_i ti hT
         cases hz:Nat.beq ti.size 1
         ·rw [hz] at h;exact h.elim
         ·rw [hz,aV] at h
          obtain ⟨up,q1,q2⟩:=OT.GO h
          obtain ⟨y',rfl,vs,rfl,hvs,_⟩:=hy
          obtain ⟨z,rfl,hz2⟩:=bW hvs
          obtain ⟨rfl,hin⟩:=hz2
          rw [<-hst.hp] at q1
          obtain ⟨ad,w',R',rfl,s1,s2⟩:=wk (P:=P) (y:=.int x) (u:=.int .i64 x) (l:= [.int x]) hst.mem hte hT hv (by grind [SV.rel]) rfl (by rw [aX hz];rfl) q1
          refine (hr.pan ad x w w' s1).mono λe u' w'' hp=> ?_
          obtain ⟨rfl,rfl,rfl⟩:=hp
          exact jL hr fs gs' rd none _ R' _ a w'' (hx.trans s2.ext) (hst.Te s2) (hd4.grow s2.ext.grow) rfl (by rw [s2.ext.U];exact h0) q2
        ·exact h.elim
      ·exact h.elim
omit hte hΦ hany in
theorem Nd {α:Type}:∀ {l:List α} {o:α},l.getLast? =some o->l=l.dropLast++ [o]
 | [a],o,h=>by cases h;rfl
 |a::b::r,o,h=>congrArg (a:: ·) (Nd (l:=b::r) h)
omit hany in
theorem wK {R₀:Ctx} {ops:Array Oper} {o:Oper} {K:St->Prop} {Q:Exit->Act->World->Prop} (hK:∀ R st a w,R₀.Ext R->iF R st a w->K st->wpList P ops Q [o] a w):
 ∀ (l:List Oper) (R:Ctx) (st:St) (a:Act) (w:World),R₀.Ext R->iF R st a w->gV te Φ ops.toList (λe st=>match e with
  |.normal=>K st
  |_=>False) l st->wpList P ops Q (l++ [o]) a w
 | [],R,st,a,w,hx,hst,h=>hK R st a w hx hst h
 |o'::r,R,st,a,w,hx,hst,h=>by
  simp only [gV] at h
  split at h
  ·exact h.elim
  ·rename_i b hb
   have hw:=fN hst hb
   simp only [List.cons_append,wpList,hw]
   cases b
   ·simp only [Bool.false_eq_true,if_false]
    exact wK hK r R _ _ w hx (hst.undef o'.dst) h
   ·simp only [if_true]
    refine .inl ?_
    obtain ⟨out,h1,h2⟩:=OT.GO h
    refine lR hte hΦ hst h1 ?_
    cases out with
    |ret e=>exact λR' w' v ha hv=>wK hK r R' _ _ w' (hx.trans ha.ext) (hst.put ha hv o'.dst) h2
    |pan sv u=>exact h2.elim
omit hany in
theorem Cc {bl:List (Nat×Code)} {R₀:Ctx} {K:Code->List (FuncId×Nat)->List SV->St->Prop} {Q:Exit->Act->World->Prop}
 (hK:∀ (c:Code) (fs:List (FuncId×Nat)) (gs:List SV) (ds:List Deferred) (R:Ctx) (st:St) (a:Act) (w:World),(R₀.put ds).Ext R->iF R st a w->gs.length=(fs.map (·.2)).sum->rD R fs gs ds->(∀ p ∈ blocks c,p ∈ bl)->K c fs gs st->c.wp P Q a w):
 ∀ (m:Nat) (c:Code) (fs:List (FuncId×Nat)) (gs:List SV) (ds:List Deferred) (R:Ctx) (st:St) (a:Act) (w:World),(R₀.put ds).Ext R->iF R st a w->gs.length=(fs.map (·.2)).sum->rD R fs gs ds->(∀ p ∈ blocks c,p ∈ bl)->aFa te Φ m c fs gs st K->c.wp P Q a w
 |0,c,fs,gs,ds,R,st,a,w,hx,hst,hl,hd,hbl,h=>hK c fs gs ds R st a w hx hst hl hd hbl h
 |m+1,c,fs,gs,ds,R,st,a,w,hx,hst,hl,hd,hbl,h=>by
  cases c<;>try (exact False.elim h;done)
  case seq x y=>
   rw [avV] at h
   have hbl':∀ p ∈ blocks y,p ∈ bl:=λp hp=>hbl p (by simp [blocks,hp])
   refine wp_seq ?_
   split at h
   ·rename_i d hc
    unfold aEz at hc
    split at hc
    ·rename_i id ops
     split at hc
     ·rename_i o ho
      split at hc
      ·rename_i c' h1 h2 h3
       cases hc
       rw [lP] at h
       refine wp_region_list ?_
       rw [show ops.toList=ops.toList.dropLast++ [o] from Nd ho]
       refine wK hte hΦ (λR' st a w hx' hst h=> ?_) ops.toList.dropLast R st a w (Ctx.Ext.refl R) hst h
       replace hd:=hd.grow hx'.grow
       replace hx:=hx.trans hx'
       split at h
       ·rename_i f l hf
        obtain ⟨d,vs,cap,e1,e2,e3,e4⟩:=aEy (P:=P) hst h1 hf
        have hw:Region.wanted o (yielded ops a.tmps)=true:=by unfold Region.wanted;rw [h2]
        simp only [wpList,hw,if_true]
        refine .inl ?_
        unfold Oper.wp
        rw [e1,Oper.upon_defer,h3]
        have hde:a.defers=ds:=by rw [hst.defers,hx.U];rfl
        have:=hst.same (d::ds)
        refine Cc hK m y _ _ (d::ds) (R'.put (d::ds)) st _ w ?_ (by rw [hde];exact this) (by simp only [bR,List.map_cons,List.sum_cons,hl]) ?_ hbl' h
        ·refine ⟨hx.F,?_,hx.ch⟩
         show (⟨R'.U.blk,R'.U.env,d::ds⟩:FN)=⟨R₀.U.blk,R₀.U.env,d::ds⟩
         rw [hx.U]
         rfl
        ·refine ⟨d,ds,vs,cap,rfl,e2,e3,?_,?_⟩
         ·rw [List.take_left' rfl];exact F3 _ e4
         ·rw [List.drop_left' rfl];exact hd.grow (uJ R' _)
       ·exact h.elim
      ·cases hc
     ·cases hc
    ·cases hc
   ·split at h
    ·rename_i id ops
     rw [lP] at h
     refine wp_region_list (lc (R₀:=R) hte hΦ (K:=λe st'=>match e with
      |.normal=>aFa te Φ m y fs gs st' K
      |_=>False) ⟨?_,?_,?_,?_⟩ _ R st a w (Ctx.Ext.refl R) hst h)
     ·exact λR' st' a' w' hx' hst' hk=>Cc hK m y fs gs ds R' st' a' w' (hx.trans hx') hst' hl (hd.grow hx'.grow) hbl' hk
     ·exact λR' st' a' w' hx' hst' hk=>hk.elim
     ·exact λR' st' a' w' id hx' hst' hk=>hk.elim
     ·exact λR' st' a' w' sv v hx' hst' hv hk=>hk.elim
    ·exact h.elim
theorem ajD {r:anK} (hr:Le P r) {f:FuncId} {fn:Func} {c:Code} (hf:P.funcs[f]? =some fn) (hb:fn.body=some c) {R₀:Ctx} {D:Shape} (hD:D.chunks.all (λc=>Nat.blt c.1 D.chunks.length&& !c.2.iz)=true) (hs:Small R₀ D.fixed) {Λ:Lam}
 {m:Nat} (hΛ:∀ R,Small R D.chunks.length->rH P R Λ c) {w:World} {n:Nat}
 {args:List SV} {vs:List Value} {K Kp:SV->Hp->Prop} (hd:R₀.U.dfs= []) (hm:cu R₀ w) (ha:SV.bx R₀ args vs) (h:aFq te Φ Λ n r m D fn args R₀.hp K Kp):Calls P f vs.toArray w (Fv R₀ K Kp):=by
 unfold aFq at h
 rw [hb] at h
 refine calls_of_wp_defers hf hb (Cc (bl:=blocks c) hte hΦ (R₀:=R₀) ?_ m c [] [] [] R₀ _ _ w ?_ ⟨rfl,hm,?_,hd.symm⟩ rfl rfl (λ_ h=>h) h)
 ·intro rest fs gs ds R st a w hx hst hl hdo hbl hk
  obtain ⟨us,k1,k2⟩:=hdo.flat hl
  have hlen:=SV.aJ hst.tm
  have hst2:iF R ⟨st.tm++gs,st.hp⟩ {tmps:=(a.tmps.toList++us).toArray,defers:=a.defers} w:=⟨hst.hp,hst.mem,by simpa using SV.bz hst.tm k1,hst.defers⟩
  unfold Shape.on at hk
  split at hk
  ·rename_i x hq
   obtain ⟨R',q1,q2⟩:=Shape.aHm (R₀:=R₀.put ds) hs hx hst2 hq
   have hsm:Small R' D.chunks.length:=λc ch hc=>by
    rw [q2.hp] at hc
    unfold Shape.prj at hq
    dsimp only at hq
    cases hbo:D.KT ⟨st.tm++gs,st.hp⟩ (D.bd ⟨st.tm++gs,st.hp⟩)&&Nat.beq (st.tm++gs).length D.n
    ·grind
    ·rw [hbo] at hq
     obtain ⟨_,hx2⟩:=aU hq
     obtain ⟨s,y',g1,g2,g3⟩:=dL hx2 (hc:dH D.chunks x.2 c=some ch)
     have:=(List.all_eq_true.1 hD) _ g1
     simp only [av] at this
     refine ⟨db this.1,?_⟩
     rw [g3]
     cases s<;>first|rfl|(cases this.2)
   have ht:SV.bx R' (D.inj x).tm (a.tmps.toList++us):=by simpa using q2.tm
   have t1:=SV.cP ht st.tm.length
   have t2:=SV.cQ ht st.tm.length
   rw [List.take_left' hlen] at t1
   rw [List.drop_left' hlen] at t2
   have hgl:((D.inj x).tm.drop st.tm.length).length=gs.length:=by rw [<-SV.aJ t2,SV.aJ k1]
   have hdo2:=k2 R' _ hgl t2
   have hback:∀ {R'':Ctx},R'.Ext R''->R₀.Ext (R''.put []):=λ{R''} e=>by
    have e1:(R₀.put ds).put []=R₀:=by
     obtain ⟨F,U,σ,hp⟩:=R₀
     obtain ⟨b,en,l⟩:=U
     cases hd
     rfl
    have:=aDx [] (q1.trans e)
    grind
   have hdef:∀ {R'':Ctx} {st':St} {a':Act} {w':World},R'.Ext R''->iF R'' st' a' w'->a'.defers=ds:=λe h=>by rw [h.defers,e.U,q1.U];rfl
   refine rJ (R₀:=R') (st:=⟨(D.inj x).tm.take st.tm.length,(D.inj x).hp⟩) (a:=a) hte hΦ hany (λp hp=>hΛ R' hsm p (hbl p hp)) (Ctx.Ext.refl R') ⟨q2.hp,q2.mem,t1,q2.defers⟩ hk ⟨?_,?_,?_,?_⟩
   ·intro R'' st' a' w' e hst' hk'
    show Leaves P fn a'.tmps _ a'.defers _ w'
    rw [hdef e hst']
    exact jL hte hΦ hany hr fs _ ds none _ (R''.put []) st' {tmps:=a'.tmps,defers:= []} w' (hback e) (hst'.same []) ((hdo2.grow e.grow).grow (uJ _ _)) rfl rfl hk'
   ·intro R'' st' a' w' e hst' hk'
    show Leaves P fn a'.tmps _ a'.defers _ w'
    rw [hdef e hst']
    exact jL hte hΦ hany hr fs _ ds none _ (R''.put []) st' {tmps:=a'.tmps,defers:= []} w' (hback e) (hst'.same []) ((hdo2.grow e.grow).grow (uJ _ _)) rfl rfl hk'
   ·simp
   ·intro R'' st' a' w' sv v e hst' hv hk'
    show Leaves P fn a'.tmps _ a'.defers _ w'
    rw [hdef e hst']
    exact jL hte hΦ hany hr fs _ ds (some sv) _ (R''.put []) st' {tmps:=a'.tmps,defers:= []} w' (hback e) (hst'.same []) ((hdo2.grow e.grow).grow (uJ _ _)) ⟨v,rfl,apK _ hv⟩ rfl hk'
  grind
 ·have e1:R₀.put []=R₀:=by
   obtain ⟨F,U,σ,hp⟩:=R₀
   obtain ⟨b,en,l⟩:=U
   cases hd
   rfl
  grind [Ctx.Ext.refl]
 grind [SV.aJ,Array.toList_append,List.size_toArray,SV.bz,SV.py,SV.rel]
theorem ayJ {f:FuncId} {fn:Func} {c:Code} (hf:P.funcs[f]? =some fn) (hb:fn.body=some c) (hname:(fn.name== "runtime.NumGoroutine")=false) {S:af} {k:Nat} (hk:S.chunks.all (λc=>Nat.blt c.1 k&& !c.2.iz)=true) {Λ:Lam}
 (hΛ:∀ R,Small R k->rH P R Λ c) {n:Nat} {outs pans:List aH} (hsel:(outs.all (λo=> !o.pan)&&pans.all λo=>o.pan)=true) {pre:S.T->Bool} {F T:S.T->OT S.Y}
 (h:∀ x Q,wpf te Φ Λ n fn (S.inp.inj x).tm (S.inp.inj x).hp (acQ S outs Q) (acQ S pans Q)=(T x).wpR Q)
 (hF:∀ x oy,pre x=true->(F x).run=some oy->(T x).run=some oy):aa P f (S.aw pre F):=by
 rw [av] at hsel
 refine ayM hte hΦ hany hf hb hname hk hΛ (n:=n) λx oy hp hr=>⟨acQ S outs (λz=>z=oy),acQ S pans (λz=>z=oy),?_,λv hp hq=> ?_,λv hp hq=> ?_⟩
 ·grind [OT.Ez,OT.iH]
 ·obtain ⟨o,ho,y,hy,hQ⟩:=tu hq
  subst hQ
  exact ⟨by grind,hy⟩
 ·obtain ⟨o,ho,y,hy,hQ⟩:=tu hq
  subst hQ
  exact ⟨(by grind),hy⟩
theorem ayL {r:anK} (hr:Le P r) {f:FuncId} {fn:Func} {c:Code} (hf:P.funcs[f]? =some fn) (hb:fn.body=some c) (hname:(fn.name== "runtime.NumGoroutine")=false) {S:af} {D:Shape}
 (hk:(S.chunks.all (λc=>Nat.blt c.1 D.fixed&& !c.2.iz)&&D.chunks.all (λc=>Nat.blt c.1 D.chunks.length&& !c.2.iz))=true) {Λ:Lam}
 (hΛ:∀ R,Small R D.chunks.length->rH P R Λ c) {n m:Nat} {outs:List aH} (hsel:(outs.all λo=> !o.pan)=true) {pre:S.T->Bool} {F T:S.T->OT S.Y}
 (h:∀ x Q,aFq te Φ Λ n r m D fn (S.inp.inj x).tm (S.inp.inj x).hp (acQ S outs Q) (λ_ _=>False)=(T x).wpR Q)
 (hF:∀ x oy,pre x=true->(F x).run=some oy->(T x).run=some oy):aa P f (S.aw pre F):=by
 rw [av] at hk
 refine ash (W:=λargs hp K Kp=>aFq te Φ Λ n r m D fn args hp K Kp) hf hb hname hk.1 (λR w args vs K Kp hsm hd hm ha hw=>ajD hte hΦ hany hr hf hb hk.2 hsm hΛ hd hm ha hw) λx oy hp hr=>⟨acQ S outs (λz=>z=oy),λ_ _=>False,?_,λv hp hq=> ?_,(by simp)⟩
 ·grind [OT.Ez,OT.iH]
 ·obtain ⟨o,ho,y,hy,hQ⟩:=tu hq
  subst hQ
  exact ⟨by grind,hy⟩
end
end Sx
end
section
namespace Sx
open Go
structure bI (P:Program) (te:TE) (Φ:Env):Prop where
 ty:kH P te
 ok:nW P Φ
 mono:nX Φ
 any:FP P te Φ
section
variable {P:Program} {te:TE} {Φ:Env}
theorem aIB (hf:P.follows .mixedOrders=true) (ht:kH P te):bI P te ahq:=⟨ht,W5,J5,aBl hf ht W5 J5⟩
theorem aP (hf:P.follows .mixedOrders=true) (g:bI P te Φ) {f:FuncId} {s:bi} (h:aa P f s) (hm:au s):bI P te (ap f s Φ):=
 ⟨g.ty,NO h g.ok,Fb hm g.mono,aBl hf g.ty (NO h g.ok) (Fb hm g.mono)⟩
abbrev aY {σ:Type} (U:σ->OT (Sum σ aT)) (ok:σ->Bool) (f:σ->OT aT):Prop:=∀ s:σ,ok s=true->∃ m e,cx U m s=some e/\(f s).run=some e
def rC (P:Program) (k:Nat) (Λ:Lam) (c:Code):Prop:=∀ R,Small R k->rH P R Λ c
theorem bw {k:Nat} {c:Code}:rC P k fC c:=λ_ _=>AX
theorem agB (g:bI P te Φ) {k:Nat} {sh:Shape} {l:List (Nat×Shape)} {r:Option Shape} {p:Option (TypeId×Shape)} {Λ:Lam} {body:Code} (hk:(Nat.beq sh.fixed k&&((l.all λp=>Nat.beq p.2.fixed k)&&(r.all λs=>Nat.beq s.fixed k)&&p.all λq=>Nat.beq q.2.fixed k))=true)
 (hΛ:rC P k Λ body) {id:Nat} {T:sh.T->OT (Sum sh.T aT)} (hT:∀ s Q,wps te Φ Λ 1000 body (sh.inj s) (Po sh (avU l r p) Q)=(T s).wpR Q) {ok:sh.T->Bool} {f:sh.T->OT aT} (hf:aY T ok f) {R:Ctx} (hR:Small R k):
 zI P R (.block id (.loop body)) (aqU sh id ok f):=by
 rw [av] at hk
 exact aD1 g.ty g.ok g.any (by rw [aX hk.1];exact hR) (ajx hk.2 hR) avT (hΛ R hR) hT hf
theorem js (g:bI P te Φ) {k:Nat} {c:Code} (id:Nat) (sh:Shape) (l:List (Nat×Shape)) (r:Option Shape) (p:Option (TypeId×Shape)) (T:sh.T->OT (Sum sh.T aT)) {Λi Λ:Lam} {ok:sh.T->Bool} {f:sh.T->OT aT} (inner:rC P k Λi (IM c id)) (hf:aY T ok f) (rest:rC P k Λ c)
 (hd:distinct ((blocks c).map (·.1))=true:=by kernel_rfl) (hl:VE c id=true:=by kernel_rfl)
 (hk:(Nat.beq sh.fixed k&&((l.all λp=>Nat.beq p.2.fixed k)&&(r.all λs=>Nat.beq s.fixed k)&&p.all λq=>Nat.beq q.2.fixed k))=true:=by kernel_rfl)
 (hT:∀ s Q,wps te Φ Λi 1000 (IM c id) (sh.inj s) (Po sh (avU l r p) Q)=(T s).wpR Q:=by intro s Q;kernel_rfl):rC P k (QE id (aqU sh id ok f) Λ) c:=
 λR hR=>Nf hd hl (agB g hk inner hT hf hR) (rest R hR)
structure aHl (P:Program) (f:FuncId) (fn:Func):Prop where
 at_:P.funcs[f]? =some fn
 body:fn.body=some (mw fn)
 name:(fn.name== "runtime.NumGoroutine")=false
theorem cC (g:bI P te Φ) (f:FuncId) (fn:Func) (S:af) (outs:List aH) {Λ:Lam} (lam:rC P S.chunks.length Λ (mw fn)) {pre:S.T->Bool} {F:S.T->OT S.Y} (T:S.T->OT S.Y)
 (hF:∀ x oy,pre x=true->(F x).run=some oy->(T x).run=some oy) (hf:aHl P f fn:=by constructor<;>kernel_rfl)
 (hk:S.chunks.all (λc=>Nat.blt c.1 S.chunks.length&& !c.2.iz)=true:=by kernel_rfl) (hsel:(outs.all λo=> !o.pan)=true:=by kernel_rfl)
 (h:∀ x Q,wpf te Φ Λ 1000 fn (S.inp.inj x).tm (S.inp.inj x).hp (acQ S outs Q) (λ_ _=>False)=(T x).wpR Q:=by intro x Q;kernel_rfl):aa P f (S.aw pre F):=
 ayK g.ty g.ok g.any hf.at_ hf.body hf.name hk lam hsel h hF
theorem aIC (g:bI P te Φ) (f:FuncId) (fn:Func) (S:af) (sel:SV->Option aH) {Λ:Lam} (lam:rC P S.chunks.length Λ (mw fn)) {pre:S.T->Bool} {F:S.T->OT S.Y} (T:S.T->OT S.Y)
 (hF:∀ x oy,pre x=true->(F x).run=some oy->(T x).run=some oy) (hf:aHl P f fn:=by constructor<;>kernel_rfl)
 (hk:S.chunks.all (λc=>Nat.blt c.1 S.chunks.length&& !c.2.iz)=true:=by kernel_rfl) (hsel:∀ v o,sel v=some o->o.pan=false:=by intro v o h;cases h;rfl)
 (h:∀ x Q,wpf te Φ Λ 1000 fn (S.inp.inj x).tm (S.inp.inj x).hp (aHU S sel Q) (λ_ _=>False)=(T x).wpR Q:=by intro x Q;kernel_rfl):aa P f (S.aw pre F):=
 ayI g.ty g.ok g.any hf.at_ hf.body hf.name hk lam hsel h hF
theorem aEg (g:bI P te Φ) (f:FuncId) (fn:Func) (S:af) (outs pans:List aH) {Λ:Lam} (lam:rC P S.chunks.length Λ (mw fn)) {pre:S.T->Bool} {F:S.T->OT S.Y} (T:S.T->OT S.Y)
 (hF:∀ x oy,pre x=true->(F x).run=some oy->(T x).run=some oy) (hf:aHl P f fn:=by constructor<;>kernel_rfl)
 (hk:S.chunks.all (λc=>Nat.blt c.1 S.chunks.length&& !c.2.iz)=true:=by kernel_rfl) (hsel:(outs.all (λo=> !o.pan)&&pans.all λo=>o.pan)=true:=by kernel_rfl)
 (h:∀ x Q,wpf te Φ Λ 1000 fn (S.inp.inj x).tm (S.inp.inj x).hp (acQ S outs Q) (acQ S pans Q)=(T x).wpR Q:=by intro x Q;kernel_rfl):aa P f (S.aw pre F):=
 ayJ g.ty g.ok g.any hf.at_ hf.body hf.name hk lam hsel h hF
theorem aIp (g:bI P te Φ) {r:anK} (hr:Le P r) (m:Nat) (D:Shape) (f:FuncId) (fn:Func) (S:af) (outs:List aH) {Λ:Lam} (lam:rC P D.chunks.length Λ (mw fn)) {pre:S.T->Bool} {F:S.T->OT S.Y} (T:S.T->OT S.Y)
 (hF:∀ x oy,pre x=true->(F x).run=some oy->(T x).run=some oy) (hf:aHl P f fn:=by constructor<;>kernel_rfl)
 (hk:(S.chunks.all (λc=>Nat.blt c.1 D.fixed&& !c.2.iz)&&D.chunks.all (λc=>Nat.blt c.1 D.chunks.length&& !c.2.iz))=true:=by kernel_rfl) (hsel:(outs.all λo=> !o.pan)=true:=by kernel_rfl)
 (h:∀ x Q,aFq te Φ Λ 1000 r m D fn (S.inp.inj x).tm (S.inp.inj x).hp (acQ S outs Q) (λ_ _=>False)=(T x).wpR Q:=by intro x Q;kernel_rfl):aa P f (S.aw pre F):=
 ayL g.ty g.ok g.any hr hf.at_ hf.body hf.name hk lam hsel h hF
end
end Sx
end
section
open Sx Go
set_option maxRecDepth 100000
noncomputable abbrev ag:=Tryz.prog
theorem aE {P:Program} {T:TypeId} {ti:TI} (h1:(P.info? T).isSome=true:=by kernel_rfl) (h4:((P.info? T).get h1).zero.isSome=true:=by kernel_rfl) (h10:(P.underlying T).isSome=true:=by kernel_rfl)
 (hs:Nat.beq ((P.info? T).get h1).size ti.size=true:=by kernel_rfl) (hb:Nat.beq ((P.info? T).get h1).bytes ti.bytes=true:=by kernel_rfl)
 (hz:(((P.info? T).get h1).zero.get h4).cells.toList.map EP=ti.zero:=by kernel_rfl) (hc:((((P.info? T).get h1).zero.get h4).cells.toList.all Value.oneCell')=true:=by kernel_rfl)
 (hn:Nat.beq (((P.info? T).get h1).zero.get h4).cells.size ti.size=true:=by kernel_rfl) (h8:Nat.ble ti.size 16777216=true:=by kernel_rfl) (h9:(ti.desc.agg||Nat.beq ti.size 1)=true:=by kernel_rfl)
 (hd:aEA P T ((P.underlying T).get h10) ti.desc=true:=by kernel_rfl)
 (ht:match ti.ty with
  |none=>True
  |some t=>Nat.beq t.size ti.size=true/\(((P.info? T).get h1).zero.get h4).cells.toList=zeroCells t/\(!ti.desc.agg|| !P.eqGuardType P.depth T)=true:=by first|exact trivial|exact ⟨by kernel_rfl,by kernel_rfl,by kernel_rfl⟩):eO P T ti:=aCK h1 h4 h10 hs hb hz hc hn h8 h9 hd ht
def aAk:TI:=⟨1,8,.other,[.fY],none⟩
def aAj:TI:=⟨1,8,.int .i64,[.int 0],some .int⟩
def aAi:TI:=⟨1,1,.bool,[.bool false],some .bool⟩
def aAh:TI:=⟨1,1,.int .u8,[.u8 0],some .u8⟩
def aAg:TI:=⟨1,16,.str,[.str []],some .str⟩
def aoZ:TI:=⟨1,16,.iface,[.fh],none⟩
def aoY:TI:=⟨1,24,.slice 27,[.emp],some (.list (.prod .elem (.prod .elem .bool)))⟩
def aoX:TI:=⟨1,8,.int .u64,[.u64 0],some .u64⟩
def aoW:TI:=⟨4,32,.array 4 23,[.u64 0,.u64 0,.u64 0,.u64 0],some .elem⟩
def aoV:TI:=⟨9,72,.struct [(0,25),(4,25),(8,4)],[.u64 0,.u64 0,.u64 0,.u64 0,.u64 0,.u64 0,.u64 0,.u64 0,.bool false],some (.prod .elem (.prod .elem .bool))⟩
def aoU:TI:=⟨21,184,.struct [(0,3),(1,3),(2,22),(3,27),(12,27)],[.int 0,.int 0,.emp,.u64 0,.u64 0,.u64 0,.u64 0,.u64 0,.u64 0,.u64 0,.u64 0,.bool false,.u64 0,.u64 0,.u64 0,.u64 0,.u64 0,.u64 0,.u64 0,.u64 0,.bool false],some (.prod .int (.prod .int (.prod (.list (.prod .elem (.prod .elem .bool))) (.prod (.prod .elem (.prod .elem .bool)) (.prod .elem (.prod .elem .bool))))))⟩
def aoT:TI:=⟨1,24,.slice 25,[.emp],some (.list .elem)⟩
def aoS:TI:=⟨2,32,.struct [(0,3),(1,30)],[.int 0,.emp],some (.prod .int (.list .elem))⟩
def aoR:TI:=⟨33,328,.struct [(0,29),(21,32),(23,30),(24,30),(25,25),(29,25)],[.int 0,.int 0,.emp,.u64 0,.u64 0,.u64 0,.u64 0,.u64 0,.u64 0,.u64 0,.u64 0,.bool false,.u64 0,.u64 0,.u64 0,.u64 0,.u64 0,.u64 0,.u64 0,.u64 0,.bool false,.int 0,.emp,.emp,.emp,.u64 0,.u64 0,.u64 0,.u64 0,.u64 0,.u64 0,.u64 0,.u64 0],some (.prod (.prod .int (.prod .int (.prod (.list (.prod .elem (.prod .elem .bool))) (.prod (.prod .elem (.prod .elem .bool)) (.prod .elem (.prod .elem .bool)))))) (.prod (.prod .int (.list .elem)) (.prod (.list .elem) (.prod (.list .elem) (.prod .elem .elem)))))⟩
def aoQ:TI:=⟨1,24,.slice 5,[.emp],some (.list .u8)⟩
def aoP:TI:=⟨1,8,.int .i64,[.int 0],some .int⟩
def aoO:TI:=⟨1,24,.slice 79,[.emp],some (.list (.prod .elem (.prod .elem (.prod .elem .bool))))⟩
def aoN:TI:=⟨1,8,.ptr [("Point",63),("Rest",24),("Scalar",71)],[.rI],none⟩
def aoM:TI:=⟨13,104,.struct [(0,25),(4,27)],[.u64 0,.u64 0,.u64 0,.u64 0,.u64 0,.u64 0,.u64 0,.u64 0,.u64 0,.u64 0,.u64 0,.u64 0,.bool false],some (.prod .elem (.prod .elem (.prod .elem .bool)))⟩
def aoL:TI:=⟨1,8,.ptr [("Bytes",37),("Point",92),("Scalar",94),("sigil/tape.say",136)],[.rI],none⟩
def aoK:TI:=⟨1,8,.ptr [("Next",90)],[.rI],none⟩
def afC:TI:=⟨1,16,.iface,[.fh],none⟩
def afB:TI:=⟨2,24,.struct [(0,3),(1,105)],[.int 0,.fh],none⟩
def afA:TI:=⟨3,48,.struct [(0,109),(2,37)],[.int 0,.fh,.emp],none⟩
def afz:TI:=⟨1,8,.ptr [],[.rI],none⟩
def afy:TI:=⟨1,8,.other,[.fY],none⟩
def afx:TI:=⟨1,8,.other,[.fY],none⟩
def afw:TI:=⟨1,8,.other,[.fY],none⟩
def afv:TI:=⟨11,88,.struct [(0,25),(4,3),(5,23),(6,23),(7,25)],[.u64 0,.u64 0,.u64 0,.u64 0,.int 0,.u64 0,.u64 0,.u64 0,.u64 0,.u64 0,.u64 0],some (.prod .elem (.prod .int (.prod .u64 (.prod .u64 .elem))))⟩
def afu:TI:=⟨1,8,.other,[.fY],none⟩
def aft:TI:=⟨1,8,.int .u64,[.u64 0],some .u64⟩
def afs:TI:=⟨3,48,.struct [(0,109),(2,37)],[.int 0,.fh,.emp],none⟩
def afr:TI:=⟨1,8,.ptr [("sigil/ipa.fold",139),("sigil/ipa.inner",164),("sigil/ipa.round",93),("sigil/ipa.side",138)],[.rI],none⟩
def afq:TI:=⟨33,328,.struct [(0,29),(21,3),(22,25),(26,30),(27,30),(28,22),(29,25)],[.int 0,.int 0,.emp,.u64 0,.u64 0,.u64 0,.u64 0,.u64 0,.u64 0,.u64 0,.u64 0,.bool false,.u64 0,.u64 0,.u64 0,.u64 0,.u64 0,.u64 0,.u64 0,.u64 0,.bool false,.int 0,.u64 0,.u64 0,.u64 0,.u64 0,.emp,.emp,.emp,.u64 0,.u64 0,.u64 0,.u64 0],some (.prod (.prod .int (.prod .int (.prod (.list (.prod .elem (.prod .elem .bool))) (.prod (.prod .elem (.prod .elem .bool)) (.prod .elem (.prod .elem .bool)))))) (.prod .int (.prod .elem (.prod (.list .elem) (.prod (.list .elem) (.prod (.list (.prod .elem (.prod .elem .bool))) .elem))))))⟩
def afp:TI:=⟨1,24,.struct [(0,30)],[.emp],some (.list .elem)⟩
def afo:TI:=⟨1,8,.other,[.fY],none⟩
def afn:TI:=⟨1,8,.ptr [("sigil/tape.next",220),("sigil/tape.take",221)],[.rI],none⟩
def afm:TI:=⟨2,32,.struct [(0,3),(1,155)],[.int 0,.emp],some (.prod .int (.list .elem))⟩
def afl:TI:=⟨1,8,.ptr [("Sum",162),("Write",161)],[.rI],none⟩
def afk:TI:=⟨1,8,.ptr [("sigil/tape.next",222),("sigil/tape.take",223)],[.rI],none⟩
def afj:TI:=⟨2,16,.struct [(0,3),(1,168)],[.int 0,.rI],none⟩
def FW:TI:=⟨1,8,.struct [(0,40)],[.int 0],some .int⟩
def afi:TI:=⟨1,8,.ptr [("Challenge",65),("Curve",59)],[.rI],none⟩
def afh:TI:=⟨1,8,.other,[.fY],none⟩
def afg:TI:=⟨1,8,.ptr [("Add",130),("Scale",224),("Value",131)],[.rI],none⟩
def aff:TI:=⟨8,64,.array 8 23,[.u64 0,.u64 0,.u64 0,.u64 0,.u64 0,.u64 0,.u64 0,.u64 0],some (.arr 8 .u64)⟩
def afe:TI:=⟨11,104,.struct [(0,3),(1,196),(9,37),(10,23)],[.int 0,.u64 0,.u64 0,.u64 0,.u64 0,.u64 0,.u64 0,.u64 0,.u64 0,.emp,.u64 0],some (.prod .int (.prod (.arr 8 .u64) (.prod (.list .u8) .u64)))⟩
def afd:TI:=⟨16,16,.array 16 5,List.replicate 16 (.u8 0),some (.arr 16 .u8)⟩
def afc:TI:=⟨2,32,.struct [(0,3),(1,51)],[.int 0,.emp],some (.prod .int (.list (.prod .elem (.prod .elem (.prod .elem .bool)))))⟩
def afb:TI:=⟨1,8,.int .i64,[.int 0],some .int⟩
def afa:TI:=⟨12,96,.struct [(0,25),(4,25),(8,25)],List.replicate 12 (.u64 0),some (.prod .elem (.prod .elem .elem))⟩
def ae9:TI:=⟨16,128,.array 16 23,List.replicate 16 (.u64 0),some (.arr 16 .u64)⟩
def ae8:TI:=⟨1,16,.iface,[.fh],none⟩
def ae7:TI:=⟨6,48,.array 6 23,[.u64 0,.u64 0,.u64 0,.u64 0,.u64 0,.u64 0],some (.arr 6 .u64)⟩
def ae6:TI:=⟨1,24,.slice 23,[.emp],some (.list .u64)⟩
def ae5:TI:=⟨128,128,.array 128 5,List.replicate 128 (.u8 0),some (.arr 128 .u8)⟩
def ae4:TI:=⟨8,64,.array 2 25,[.u64 0,.u64 0,.u64 0,.u64 0,.u64 0,.u64 0,.u64 0,.u64 0],some (.arr 2 .elem)⟩
def ae3:TI:=⟨1,8,.other,[.fY],none⟩
def ae2:TI:=⟨135,1080,.array 15 27,(([.u64 0,.u64 0,.u64 0,.u64 0,.u64 0,.u64 0,.u64 0,.u64 0,.bool false,.u64 0,.u64 0,.u64 0,.u64 0,.u64 0,.u64 0,.u64 0,.u64 0,.bool false,.u64 0,.u64 0,.u64 0,.u64 0,.u64 0,.u64 0,.u64 0,.u64 0,.bool false,.u64 0,.u64 0,.u64 0,.u64 0,.u64 0,.u64 0,.u64 0,.u64 0,.bool false,.u64 0,.u64 0,.u64 0,.u64 0,.u64 0,.u64 0,.u64 0,.u64 0,.bool false,.u64 0,.u64 0,.u64 0,.u64 0,.u64 0]:List SV)++([.u64 0,.u64 0,.u64 0,.bool false,.u64 0,.u64 0,.u64 0,.u64 0,.u64 0,.u64 0,.u64 0,.u64 0,.bool false,.u64 0,.u64 0,.u64 0,.u64 0,.u64 0,.u64 0,.u64 0,.u64 0,.bool false,.u64 0,.u64 0,.u64 0,.u64 0,.u64 0,.u64 0,.u64 0,.u64 0,.bool false,.u64 0,.u64 0,.u64 0,.u64 0,.u64 0,.u64 0,.u64 0,.u64 0,.bool false,.u64 0,.u64 0,.u64 0,.u64 0,.u64 0,.u64 0,.u64 0,.u64 0,.bool false,.u64 0]:List SV)++([.u64 0,.u64 0,.u64 0,.u64 0,.u64 0,.u64 0,.u64 0,.bool false,.u64 0,.u64 0,.u64 0,.u64 0,.u64 0,.u64 0,.u64 0,.u64 0,.bool false,.u64 0,.u64 0,.u64 0,.u64 0,.u64 0,.u64 0,.u64 0,.u64 0,.bool false,.u64 0,.u64 0,.u64 0,.u64 0,.u64 0,.u64 0,.u64 0,.u64 0,.bool false]:List SV)),some (.arr 15 (.prod .elem (.prod .elem .bool)))⟩
def ae1:TI:=⟨16,128,.array 16 23,List.replicate 16 (.u64 0),some (.arr 16 .u64)⟩
def ae0:TI:=⟨10,160,.array 10 9,List.replicate 10 (.str []),some (.arr 10 .str)⟩
def aeZ:TI:=⟨1,8,.ptr [("sigil/blake.mix",200)],[.rI],none⟩
theorem aFF:eO ag 1 aAk:=aE
theorem aFE:eO ag 3 aAj:=aE
theorem aFD:eO ag 4 aAi:=aE
theorem aFC:eO ag 5 aAh:=aE
theorem aFB:eO ag 9 aAg:=aE
theorem aC2:eO ag 20 aoZ:=aE
theorem aC1:eO ag 22 aoY:=aE
theorem aC0:eO ag 23 aoX:=aE
theorem aCZ:eO ag 25 aoW:=aE
theorem aCY:eO ag 27 aoV:=aE
theorem aCX:eO ag 29 aoU:=aE
theorem aCW:eO ag 30 aoT:=aE
theorem aCV:eO ag 32 aoS:=aE
theorem aCU:eO ag 34 aoR:=aE
theorem aCT:eO ag 37 aoQ:=aE
theorem aCS:eO ag 40 aoP:=aE
theorem aCR:eO ag 51 aoO:=aE
theorem aCQ:eO ag 52 aoN:=aE
theorem aCP:eO ag 79 aoM:=aE
theorem aCO:eO ag 83 aoL:=aE
theorem aCN:eO ag 87 aoK:=aE
theorem awP:eO ag 105 afC:=aE
theorem awO:eO ag 109 afB:=aE
theorem awN:eO ag 111 afA:=aE
theorem awM:eO ag 113 afz:=aE
theorem awL:eO ag 130 afy:=aE
theorem awK:eO ag 133 afx:=aE
theorem awJ:eO ag 134 afw:=aE
theorem awI:eO ag 137 afv:=aE
theorem awH:eO ag 142 afu:=aE
theorem awG:eO ag 143 aft:=aE
theorem awF:eO ag 147 afs:=aE
theorem awE:eO ag 148 afr:=aE
theorem awD:eO ag 150 afq:=aE
theorem awC:eO ag 155 afp:=aE
theorem awB:eO ag 161 afo:=aE
theorem awA:eO ag 165 afn:=aE
theorem awz:eO ag 167 afm:=aE
theorem awy:eO ag 168 afl:=aE
theorem awx:eO ag 171 afk:=aE
theorem aww:eO ag 173 afj:=aE
theorem awv:eO ag 175 FW:=aE
theorem awu:eO ag 177 afi:=aE
theorem awt:eO ag 181 afh:=aE
theorem aws:eO ag 189 afg:=aE
theorem awr:eO ag 196 aff:=aE
theorem awq:eO ag 203 afe:=aE
theorem awp:eO ag 204 afd:=aE
theorem awo:eO ag 210 afc:=aE
theorem awn:eO ag 213 afb:=aE
theorem awm:eO ag 216 afa:=aE
theorem awl:eO ag 221 ae9:=aE
theorem awk:eO ag 231 ae8:=aE
theorem awj:eO ag 233 ae7:=aE
theorem awi:eO ag 235 ae6:=aE
theorem awh:eO ag 239 ae5:=aE
theorem awg:eO ag 240 ae4:=aE
theorem awf:eO ag 249 ae3:=aE
theorem awe:eO ag 250 ae2:=aE
theorem awd:eO ag 251 ae1:=aE
theorem awc:eO ag 252 ae0:=aE
theorem awb:eO ag 258 aeZ:=aE
def te:TE:=bq 1 aAk<|bq 3 aAj<|bq 4 aAi<|bq 5 aAh<|bq 9 aAg<|bq 20 aoZ<|bq 22 aoY<|bq 23 aoX<|bq 25 aoW<|bq 27 aoV<|bq 29 aoU<|bq 30 aoT<|bq 32 aoS<|bq 34 aoR<|bq 37 aoQ<|bq 40 aoP<|bq 51 aoO<|bq 52 aoN<|bq 79 aoM<|bq 83 aoL<|bq 87 aoK<|bq 105 afC<|bq 109 afB<|bq 111 afA<|bq 113 afz<|bq 130 afy<|bq 133 afx<|bq 134 afw<|bq 137 afv<|bq 142 afu<|bq 143 aft<|bq 147 afs<|bq 148 afr<|bq 150 afq<|bq 155 afp<|bq 161 afo<|bq 165 afn<|bq 167 afm<|bq 168 afl<|bq 171 afk<|bq 173 afj<|bq 175 FW<|bq 177 afi<|bq 181 afh<|bq 189 afg<|bq 196 aff<|bq 203 afe<|bq 204 afd<|bq 210 afc<|bq 213 afb<|bq 216 afa<|bq 221 ae9<|bq 231 ae8<|bq 233 ae7<|bq 235 ae6<|bq 239 ae5<|bq 240 ae4<|bq 249 ae3<|bq 250 ae2<|bq 251 ae1<|bq 252 ae0<|bq 258 aeZ<|aFG
theorem aki:kH ag te:=aF aFF<|aF aFE<|aF aFD<|aF aFC<|aF aFB<|aF aC2<|aF aC1<|aF aC0<|aF aCZ<|aF aCY<|aF aCX<|aF aCW<|aF aCV<|aF aCU<|aF aCT<|aF aCS<|aF aCR<|aF aCQ<|aF aCP<|aF aCO<|aF aCN<|aF awP<|aF awO<|aF awN<|aF awM<|aF awL<|aF awK<|aF awJ<|aF awI<|aF awH<|aF awG<|aF awF<|aF awE<|aF awD<|aF awC<|aF awB<|aF awA<|aF awz<|aF awy<|aF awx<|aF aww<|aF awv<|aF awu<|aF awt<|aF aws<|aF awr<|aF awq<|aF awp<|aF awo<|aF awn<|aF awm<|aF awl<|aF awk<|aF awj<|aF awi<|aF awh<|aF awg<|aF awf<|aF awe<|aF awd<|aF awc<|aF awb<|awQ
theorem follows:ag.follows .mixedOrders=true:=by kernel_rfl
def E0:Env:=ahq
theorem aIc:bI ag te E0:=aIB follows aki
def Cf (b:List UInt8) (k:Nat):UInt64:=(List.range k).foldl (λv (i:Nat)=>v|||cn (UInt8.toUInt64 (b.getD i 0)) (8*(i:Int))) 0
theorem ajE (b:List UInt8) (k:Nat):Cf b (k+1)=Cf b k|||cn (UInt8.toUInt64 (b.getD k 0)) (8*(k:Int)):=by
 simp [Cf,List.range_succ]
abbrev ao:Type:=List UInt64
abbrev az:Type:=List ab
abbrev aG:Type:=List UInt8
abbrev eE:Type:=Int×Unit
abbrev bQ:Type:=Unit×Unit
abbrev oN:Type:=ab×Unit
abbrev mJ:Type:=UInt64×Unit
abbrev rq:Type:=ab×PUnit
abbrev cM:Type:=ab×ab×Bool
abbrev mK:Type:=Unit×bQ
abbrev fq:Type:=az×Unit
abbrev df:Type:=aG×Unit
abbrev ib:Type:=ab×ab×ab
abbrev BQ:Type:=PUnit×PUnit×PUnit
abbrev ru:Type:=ab×oN
abbrev jv:Type:=Int×eE
abbrev mG:Type:=eE×Unit
abbrev oK:Type:=Unit×eE
abbrev tY:Type:=ao×Unit
abbrev Fp:Type:=ao×UInt64
abbrev Fo:Type:=aG×PUnit
abbrev wE:Type:=Int×az
abbrev Yl:Type:=List (Int×ab)
abbrev K3:Type:=List aG
abbrev wg:Type:=ao×tY
abbrev kU:Type:=Unit×oK
abbrev cB:Type:=List cM
abbrev kT:Type:=ao×UInt64×aG
abbrev jw:Type:=Int×fq
abbrev kC:Type:=Int×mK
abbrev mI:Type:=ab×wE
abbrev nC:Type:=Unit×mK
abbrev rp:Type:=cM×Unit
abbrev K5:Type:=Int×az×PUnit
abbrev Oj:Type:=(Int×oN)×Unit
abbrev aij:Type:=UInt64×UInt64×mJ
abbrev aif:Type:=(ab×eE)×Unit
abbrev Fm:Type:=ab×cM
abbrev BP:Type:=cM×Int
abbrev cY:Type:=List Fm
abbrev iD:Type:=ab×Int×UInt64×UInt64×ab
abbrev rv:Type:=Unit×Unit×jv
abbrev mH:Type:=mK×wg
abbrev oL:Type:=ao×wg
abbrev K6:Type:=(Int×ru)×Unit
abbrev aik:Type:=(Unit×Unit×mJ)×wg
abbrev auE:Type:=PUnit×PUnit×PUnit×Int×PUnit
abbrev Yk:Type:=Int×Unit×df
abbrev K2:Type:=Unit×nC
abbrev K1:Type:=cB×Unit
abbrev oO:Type:=ao×oL
abbrev Fq:Type:=Yk×jw×Unit
abbrev BR:Type:=Unit×Unit×kU
abbrev aio:Type:=Unit×Unit×Unit×UInt64×eE
abbrev oM:Type:=cY×Unit
abbrev auJ:Type:=(Int×BQ)×K5×(az×PUnit)×Fo
abbrev Ok:Type:=kC×jw×df
abbrev kP:Type:=Int×Int×cB×cM×cM
abbrev ait:Type:=UInt64×UInt64×UInt64×aij
abbrev K4:Type:=Unit×BR
abbrev aii:Type:=(Int×bQ)×oM
abbrev aBo:Type:=UInt64×UInt64×UInt64×UInt64×UInt64×UInt64×PUnit
abbrev aim:Type:=kP×wE×az×az×ab×ab
abbrev Yo:Type:=Unit×Unit×Unit×rv
abbrev rn:Type:=kP×Unit
abbrev Yn:Type:=(Unit×aio)×oO
abbrev Ym:Type:=(Int×oM)×Unit
abbrev ain:Type:=(Int×Int×cB×cM×rp)×K1
abbrev auH:Type:=ao×ao×ao×ao×K3×df×Unit
abbrev aBn:Type:=K4×ao×ao×ao×ao×K3×Unit
abbrev jY:Type:=UInt64×UInt64×UInt64×UInt64×UInt64×UInt64×UInt64×UInt64×Bool×Unit
abbrev FM:Type:=kP×Int×ab×az×az×cB×ab
abbrev ais:Type:=UInt64×UInt64×UInt64×UInt64×UInt64×UInt64×UInt64×UInt64×Bool×PUnit
abbrev aip:Type:=kP×Int×ab×Unit×Unit×cB×oN
abbrev auI:Type:=UInt64×UInt64×UInt64×ait
abbrev tX:Type:=FM×Unit
abbrev Mf:Type:=UInt64×UInt64×UInt64×UInt64×Int×ait
abbrev Ol:Type:=Int×UInt64×UInt64×UInt64×UInt64×UInt64×UInt64×UInt64×UInt64×Unit×mJ
abbrev aiq:Type:=Int×UInt64×UInt64×UInt64×UInt64×UInt64×UInt64×UInt64×UInt64×PUnit×UInt64×PUnit
abbrev tZ:Type:=jY×jY×Unit
abbrev auK:Type:=Int×UInt64×UInt64×UInt64×UInt64×UInt64×UInt64×UInt64×UInt64×aG×mJ
abbrev ail:Type:=(Int×cY×kU)×tZ
abbrev auD:Type:=UInt64×UInt64×UInt64×auI
abbrev air:Type:=Yk×jw×rn×ao×ao×bQ×eE×Unit×oM
abbrev auG:Type:=UInt64×UInt64×UInt64×UInt64×jY
abbrev auC:Type:=ao×Mf×ao×oO
abbrev aBq:Type:=aip×kC×jw×fq×Unit×ao×ao×ao×ao×cB×az×az×df
abbrev auF:Type:=(Int×BR)×ao×jY×tZ
abbrev aBt:Type:=Yk×jw×rn×ao×ao×bQ×eE×Unit×ao×ao×az×oM
abbrev aBs:Type:=kC×jw×fq×aG×rn×ao×ao×eE×aip×az×az×fq
abbrev aBp:Type:=kC×jw×fq×Unit×rn×ao×ao×eE×tX×df
abbrev K7:Type:=Int×Int×cB×UInt64×UInt64×UInt64×UInt64×UInt64×UInt64×UInt64×UInt64×Bool×jY
abbrev aBr:Type:=Int×Int×cB×UInt64×UInt64×UInt64×UInt64×UInt64×UInt64×UInt64×UInt64×Bool×ais
abbrev aih:Type:=K7×jY×oM
abbrev aI:Sh:=.val false .u64
abbrev B4:Ty:=.prod .elem (.prod .elem .bool)
abbrev aB:Sh:=.val false .int
abbrev kZ:Sh:=.val false .bool
abbrev Yw:CSh:=.cells [aI,aI,aI,aI,aI,aI,aI,aI,kZ]
abbrev aGT:Ty:=.prod .int (.prod .int (.prod (.list B4) (.prod B4 B4)))
abbrev jt:Sh:=.val false (.list .elem)
abbrev dY:Sh:=.val true .elem
abbrev aGS:CSh:=.cells [.val true (.prod aGT (.prod .int (.prod .elem (.prod (.list .elem) (.prod (.list .elem) (.prod (.list B4) .elem))))))]
abbrev wG:Sh:=.val false (.list B4)
abbrev Ys:Nat×CSh:=(0,.cells [aB,aB,wG,aI,aI,aI,aI,aI,aI,aI,aI,kZ,aI,aI,aI,aI,aI,aI,aI,aI,kZ])
abbrev zB:Sh:=.ifp 165 1
abbrev iE:Sh:=.val false (.list .u8)
abbrev aef:Nat×CSh:=(0,.cells [aB,zB,iE])
abbrev fW:CSh:=.row .u64
abbrev ub:CSh:=.cells [aB,jt]
abbrev kD:Nat×CSh:=(1,ub)
abbrev dW:Sh:=.ptr 0 0 0
abbrev Oo:CSh:=.cells [aI,aI,aI,aI,aB,aI,aI,aI,aI,aI,aI]
abbrev nH:Sh:=.val false (.list (.prod .elem B4))
abbrev auM:Nat×CSh:=(0,.cells [aB,zB,.own 2])
abbrev jA:CSh:=.row .u8
abbrev zp:Nat×CSh:=(2,jA)
abbrev ue:List (Nat×CSh):= [auM,kD,zp]
abbrev oV:Sh:=.ptr 1 0 0
abbrev Yq:Sh:=.val true aGT
abbrev uc:CSh:=.cells [Yq]
abbrev nE:Nat×CSh:=(3,fW)
abbrev BV:Nat×CSh:=(4,fW)
abbrev ic:List Sh:= [aB]
abbrev oU:CSh:=.cells ic
abbrev ud:CSh:=.row (.prod .elem B4)
abbrev aiw:List (Nat×CSh):= [aef,kD,(2,uc),nE,BV,(5,.cells [.own 8]),(6,oU),(7,.gone),(8,ud)]
abbrev On:Sh:=.val true (.prod .elem (.prod .int (.prod .u64 (.prod .u64 .elem))))
abbrev wH:Sh:=.val true B4
abbrev fV:Nat×CSh:=(0,fW)
abbrev mL:Sh:=.own 1
abbrev Yx:Nat×CSh:=(0,.cells [aB,aI,aI,aI,aI,aI,aI,aI,aI,mL,aI])
abbrev fu:Sh:=.ptr 2 0 0
abbrev Fu:Sh:=.val true (.prod .elem (.prod .elem .elem))
abbrev aBw:CSh:=.cells [Yq,aB,dY,.own 10,.own 11,wG,dY]
abbrev B3:CSh:=.cells [jt]
abbrev BU:Nat×CSh:=(5,fW)
abbrev uf:Nat×CSh:=(6,fW)
abbrev ft:CSh:=.row .elem
abbrev aBE:List (Nat×CSh):= [(0,aBw),(1,.cells [aB,.ifp 165 2,.own 12]),(2,ub),(3,B3),(4,.gone),BU,uf,(7,fW),(8,fW),(9,.row B4),(10,ft),(11,ft),(12,jA)]
abbrev aiv:Nat×CSh:=(0,.cells [aB,zB,.own 3])
abbrev ug:Nat×CSh:=(2,B3)
abbrev aBD:List (Nat×CSh):= [aiv,kD,ug,(3,jA),(4,uc),BU,uf,(7,oU),(8,aBw),(9,ft),(10,ft),(11,ft)]
abbrev oR:Nat×CSh:=(1,fW)
abbrev dC:Nat×Sh:=(4,dW)
abbrev kW:Nat×CSh:=(2,fW)
abbrev fH:Sh:=.ptr 3 0 0
abbrev jz:List Sh:= [dY,aB]
abbrev aBC:List (Nat×CSh):= [(0,.cells [aB,.ifp 171 1,.own 2]),(1,.cells [aB,fH]),zp,(3,.cells [aB,aI,aI,aI,aI,aI,aI,aI,aI,.own 4,aI]),(4,jA)]
abbrev mN:List (Nat×CSh):= [fV,oR]
abbrev BW:Sh:=.ptr 5 0 0
abbrev nG:Nat×Sh:=(10,BW)
abbrev Fs:Sh:=.ptr 6 0 0
abbrev nF:Nat×Sh:=(11,Fs)
abbrev Yv:Sh:=.val true (.prod .int (.list .elem))
abbrev mM:List (Nat×CSh):= [aef,kD]
abbrev Yr:Sh:=.val false .str
abbrev auO:List (Nat×CSh):= [fV,oR,kW,nE,(4,.row .str),(5,.cells [Yr])]
abbrev aBB:List (Nat×CSh):= [(0,.cells [aB,zB,.own 9]),kD,ug,(3,.gone),(4,uc),BU,uf,(7,oU),(8,aGS),(9,jA)]
abbrev aBA:List (Nat×CSh):= [aef,kD,(2,uc),nE,BV,(5,.cells [.own 11]),(6,oU),(7,.gone),(8,fW),(9,fW),(10,ft),(11,ud)]
abbrev auN:List (Nat×CSh):= [fV,(1,Oo),kW,nE,BV,BU,uf]
abbrev kV:Nat×CSh:=(0,Yw)
abbrev B2:Sh:=.ptr 4 0 0
abbrev B0:Nat×CSh:=(1,.row B4)
abbrev aBz:List (Nat×CSh):= [kV,B0,(2,.cells [aI,aI,aI,aI,aI,aI,aI,aI,aI,aI,aI,aI,kZ])]
abbrev jy:Nat×Sh:=(6,oV)
abbrev jx:Nat×Sh:=(6,dW)
abbrev ig:Nat×Sh:=(0,aB)
abbrev Yu:List (Nat×CSh):= [fV,oR,kW,nE]
abbrev Lb:List Sh:= [aB,dY,dY]
abbrev B1:Nat×Sh:=(12,.ptr 7 0 0)
abbrev aBy:CSh:=.cells [aI,aI,aI,aI,aI,aI,aI,aI,aI,aI,aI,aI]
abbrev nD:Nat×CSh:=(1,jA)
abbrev La:List (Nat×CSh):= [kV,(1,Yw)]
abbrev fG:List Sh:= [dY]
abbrev K9:Sh:=.ptr 8 0 0
abbrev Ft:List Sh:= [dW,aB]
abbrev aBx:List (Nat×CSh):= [aiv,kD,ug,(3,jA),(4,uc),BU,uf,(7,oU)]
abbrev rB:Nat×Sh:=(5,oV)
abbrev ua:Nat×Sh:=(2,dW)
abbrev rA:Nat×Sh:=(3,dW)
abbrev rz:Nat×Sh:=(1,dW)
abbrev Yt:List (Nat×CSh):= [fV,oR,kW]
abbrev wF:List (Nat×CSh):= [(0,oU)]
abbrev BZ:Nat×Sh:=(13,B2)
abbrev aiu:Nat×CSh:=(0,.cells [aB,mL])
abbrev K8:List Sh:= [wH,aB]
abbrev ry:Nat×Sh:=(7,aB)
abbrev BX:Nat×Sh:=(8,oV)
abbrev zu:Nat×Sh:=(3,oV)
abbrev aBv:List (Nat×Sh):= [ua,zu,(4,fu),(6,fH),(7,aI),(9,aB)]
abbrev oQ:List Sh:= [dW]
abbrev oP:List Sh:= [wH]
abbrev BT:Nat×Sh:=(8,fu)
abbrev BS:Nat×Sh:=(4,oV)
abbrev Yp:Sh:=.val false .u8
abbrev Om:List Sh:= [aB,dY]
abbrev zx:Nat×Sh:=(9,fu)
abbrev aBu:List (Nat×Sh):= [dC,BX,zx,(11,fH),BZ,(51,aB)]
abbrev auL:Sh:=.val true (.arr 8 .u64)
abbrev auQ:List (Nat×CSh):= [auM,(1,.cells [aB,.own 3]),zp,(3,ft)]
abbrev uh:Nat×Sh:=(5,fu)
abbrev mO:List Sh:= [kZ]
abbrev zA:List (Nat×CSh):= [(0,jA)]
abbrev rc:Nat×CSh:=(0,aGS)
abbrev Ld:List Sh:= [aI,aI]
abbrev Lc:List Sh:= [dY,dY]
abbrev zy:List Sh:= [.ife 175]
abbrev zw:Nat×Sh:=(0,dW)
abbrev aeg:List (Nat×CSh):= [(0,Oo),oR,kW]
abbrev zt:Nat×Sh:=(17,aB)
abbrev zr:Nat×Sh:=(1,nH)
abbrev zq:Nat×Sh:=(7,oV)
abbrev auP:List (Nat×CSh):= [fV,(1,Oo),kW,nE,BV,BU]
abbrev zo:Nat×CSh:=(2,ud)
abbrev Ek:Nat×Sh:=(10,mL)
abbrev Ej:Nat×Sh:=(14,K9)
def za:af:=⟨[iE],[],true,0,false⟩
abbrev XJ:Type:=df×Unit
def azi:Shape:=⟨22,[(3,aI),(6,iE),ry,(8,aB)],[],0,true⟩
abbrev ia:Type:=(UInt64×aG×jv)×Unit
def vI:Shape:=⟨22,[(3,aI)],[],0,true⟩
abbrev y9:Type:=mJ×Unit
def RY (a3:UInt64) (a6:aG) (a7:Int) (a8:Int):OT (Sum ia aT):=
 (.br (decide (a8<a7))
 (gd [inB a8 (List.length a6),inR ((8:Int)*a8),decide ((0:Int)<=(8:Int)*a8),inR (a8+(1:Int))] (.ok (.inl ((a3|||cn (UInt8.toUInt64 (List.getD a6 (Int.toNat a8) (0:UInt8))) ((8:Int)*a8),a6,a7,a8+(1:Int),()),()))))
 (.ok (.inr ⟨(.exit 0,vI),((a3,()),())⟩)))
def vJ (s:ia):OT (Sum ia aT):=RY s.1.1 s.1.2.1 s.1.2.2.1 s.1.2.2.2.1
def ahQ (g0_0:ia->y9) (s:ia):OT aT:=(.ok ⟨(.exit 0,vI),g0_0 s⟩)
def RX:aH:=⟨[aI],[],false⟩
section
variable (ok0:ia->Bool) (g0_0:ia->y9)
def atJ (a0:aG):OT za.Y:=
 let z0:ia:=(((0:UInt64),a0,(↑(List.length a0):Int),(0:Int),()),())
 (gd [ok0 z0] (.ok ⟨RX,(((g0_0 z0).fst.fst,()),())⟩))
theorem anl (h0:aY vJ ok0 (ahQ g0_0)) (pre:XJ->Bool) (F:XJ->OT za.Y) (hF:∀ (x:XJ) oy,pre x=true->(F x).run=some oy->(atJ ok0 g0_0 x.1.1).run=some oy):aa ag 150 (za.aw pre F):=
 cC aIc 150 Tryz.f150 za [RX] (js aIc 0 azi [(0,vI)] none none vJ bw h0 bw) (λx=>atJ ok0 g0_0 x.1.1) hF
end
def XI (s:ia):Bool:=decide (s.1.1=0/\s.1.2.2.1=(s.1.2.1.length:Int)/\s.1.2.2.2.1=0/\s.1.2.1.length<=4096)
def ahP (s:ia):y9:=((Cf s.1.2.1 s.1.2.1.length,()),())
theorem azk:∀ s,XI s=true->∃ m e,cx vJ m s=some e/\(ahQ ahP s).run=some e:=by
 rintro ⟨⟨v,b,n,i,⟨⟩⟩,⟨⟩⟩ h
 have h':=bh h
 dsimp only at h'
 obtain ⟨rfl,rfl,rfl,hl⟩:=h'
 have:=IL (T:=vJ) (λk=>((Cf b k,b,(b.length:Int),(k:Int),()),())) b.length (e:=⟨(.exit 0,vI),((Cf b b.length,()),())⟩) (λk hk=> ?_) ?_ 0 (Nat.zero_le _)
 ·obtain ⟨m,hm⟩:=this
  exact ⟨m,_,hm,rfl⟩
 ·unfold vJ RY
  dsimp only
  rw [OT.ak (aj (by omega)),ae (by simp;exact ⟨aR (by omega),aL (by omega),by omega,aL (by omega)⟩),OT.gb,ajE]
  rfl
 ·unfold vJ RY
  dsimp only
  rw [OT.al (bn (by omega)),OT.gb]
def mA (x:XJ):Bool:=decide (x.1.1.length<=4096)
def atK (x:XJ):OT za.Y:=.ok ⟨RX,((Cf x.1.1 x.1.1.length,()),())⟩
theorem azj:aa ag 150 (za.aw mA atK):=anl XI ahP azk _ _ λx oy hp ho=>by
 rw [<-ho]
 have hp':=bh hp
 refine (OT.ak ?_).trans ?_
 ·exact aj ⟨rfl,rfl,rfl,hp'⟩
 ·rfl
def D8:bi:=(za.aw mA atK)
theorem adL:aa ag 150 D8:=azj
theorem adK:au D8:=aq
def avG:Env:=ap 150 D8 E0
theorem Zg:bI ag te avG:=aP follows aIc adL adK
def Hv:af:=⟨[aI,aB],[],true,0,false⟩
abbrev ape:Type:=(UInt64×eE)×Unit
def aan:aH:=⟨[aI],[],false⟩
def aAq (a0:UInt64) (a1:Int):OT Hv.Y:=
 (.ok ⟨aan,((cn a0 (↑(UInt64.toNat (i2u a1&&&(63:UInt64))):Int)|||bA a0 (↑(UInt64.toNat ((64:UInt64)-(i2u a1&&&(63:UInt64)))):Int),()),())⟩)
theorem apd (pre:ape->Bool) (F:ape->OT Hv.Y) (hF:∀ (x:ape) oy,pre x=true->(F x).run=some oy->(aAq x.1.1 x.1.2.1).run=some oy):aa ag 202 (Hv.aw pre F):=
 cC Zg 202 Tryz.f202 Hv [aan] bw (λx=>aAq x.1.1 x.1.2.1) hF
def rotl (a:UInt64) (n:Int):UInt64:=cn a (UInt64.toNat (i2u n&&&63):Int)|||bA a (UInt64.toNat (64-(i2u n&&&63)):Int)
def afU (_:ape):Bool:=true
def aAr (x:ape):OT Hv.Y:=.ok ⟨aan,((rotl x.1.1 x.1.2.1,()),())⟩
theorem aDg:aa ag 202 (Hv.aw afU aAr):=apd _ _ λx oy _ ho=>ho
def Hu:bi:=(Hv.aw afU aAr)
theorem akv:aa ag 202 Hu:=aDg
theorem aku:au Hu:=aq
def aBR:Env:=ap 202 Hu avG
theorem aiO:bI ag te aBR:=aP follows Zg akv aku
def KB:af:=⟨[Yp],[],true,0,false⟩
abbrev atW:Type:=(UInt8×Unit)×Unit
def R7:aH:=⟨ic,[],false⟩
def aBg (a0:UInt8):OT KB.Y:=
 (.br (decide ((97:UInt8)<=a0))
 (gd [inR ((↑(UInt8.toNat (a0-(97:UInt8))):Int)+(10:Int))] (.ok ⟨R7,(((↑(UInt8.toNat (a0-(97:UInt8))):Int)+(10:Int),()),())⟩))
 (.ok ⟨R7,(((↑(UInt8.toNat (a0-(48:UInt8))):Int),()),())⟩))
theorem atV (pre:atW->Bool) (F:atW->OT KB.Y) (hF:∀ (x:atW) oy,pre x=true->(F x).run=some oy->(aBg x.1.1).run=some oy):aa ag 199 (KB.aw pre F):=
 cC aiO 199 Tryz.f199 KB [R7] bw (λx=>aBg x.1.1) hF
def nib (c:UInt8):Int:=if 97<=c then (UInt8.toNat (c-97):Int)+10 else (UInt8.toNat (c-48):Int)
def ahZ (_:atW):Bool:=true
def ah0 (x:atW):OT KB.Y:=.ok ⟨R7,((nib x.1.1,()),())⟩
theorem aEX:aa ag 199 (KB.aw ahZ ah0):=atV _ _ λx oy _ ho=>by
 rw [<-ho]
 have hlt:=(x.1.1-97).toNat_lt
 by_cases h:97<=x.1.1
 ·refine (OT.ak (aj h)).trans ((ae (by simp;exact aL (by omega))).trans ?_)
  simp only [ah0,nib,if_pos h]
 ·refine (OT.al (bn h)).trans ?_
  simp only [ah0,nib,if_neg h]
def KA:bi:=(KB.aw ahZ ah0)
theorem anr:aa ag 199 KA:=aEX
theorem anq:au KA:=aq
def aCc:Env:=ap 199 KA aBR
theorem ajq:bI ag te aCc:=aP follows aiO anr anq
def qR:af:=⟨[],[],true,0,false⟩
abbrev Kx:Type:=bQ
def Kw:aH:=⟨[auL],[],false⟩
def ahS:OT qR.Y:=
 (.ok ⟨Kw,(([(7640891576956012808:UInt64),(13503953896175478587:UInt64),(4354685564936845355:UInt64),(11912009170470909681:UInt64),(5840696475078001361:UInt64),(11170449401992604703:UInt64),(2270897969802886507:UInt64),(6620516959819538809:UInt64)],()),())⟩)
theorem adW (pre:Kx->Bool) (F:Kx->OT qR.Y) (hF:∀ (x:Kx) oy,pre x=true->(F x).run=some oy->(ahS).run=some oy):aa ag 149 (qR.aw pre F):=
 cC ajq 149 Tryz.f149 qR [Kw] bw (λx=>ahS) hF
def bIV:ao:= [0x6a09e667f3bcc908,0xbb67ae8584caa73b,0x3c6ef372fe94f82b,0xa54ff53a5f1d36f1,0x510e527fade682d1,0x9b05688c2b3e6c1f,0x1f83d9abfb41bd6b,0x5be0cd19137e2179]
def N6 (_:Kx):Bool:=true
def ahT (_:Kx):OT qR.Y:=.ok ⟨Kw,((bIV,()),())⟩
theorem atT:aa ag 149 (qR.aw N6 ahT):=adW _ _ λx oy _ ho=>ho
def zc:bi:=(qR.aw N6 ahT)
theorem XP:aa ag 149 zc:=atT
theorem XO:au zc:=aq
def ajo:Env:=ap 149 zc aCc
theorem OP:bI ag te ajo:=aP follows ajq XP XO
def qS:af:=⟨[],[],true,0,false⟩
abbrev Kz:Type:=bQ
def Ky:aH:=⟨[.val true (.arr 10 .str)],[],false⟩
def ahU:OT qS.Y:=
 (.ok ⟨Ky,(([[(48:UInt8),(49:UInt8),(50:UInt8),(51:UInt8),(52:UInt8),(53:UInt8),(54:UInt8),(55:UInt8),(56:UInt8),(57:UInt8),(97:UInt8),(98:UInt8),(99:UInt8),(100:UInt8),(101:UInt8),(102:UInt8)],[(101:UInt8),(97:UInt8),(52:UInt8),(56:UInt8),(57:UInt8),(102:UInt8),(100:UInt8),(54:UInt8),(49:UInt8),(99:UInt8),(48:UInt8),(50:UInt8),(98:UInt8),(55:UInt8),(53:UInt8),(51:UInt8)],[(98:UInt8),(56:UInt8),(99:UInt8),(48:UInt8),(53:UInt8),(50:UInt8),(102:UInt8),(100:UInt8),(97:UInt8),(101:UInt8),(51:UInt8),(54:UInt8),(55:UInt8),(49:UInt8),(57:UInt8),(52:UInt8)],[(55:UInt8),(57:UInt8),(51:UInt8),(49:UInt8),(100:UInt8),(99:UInt8),(98:UInt8),(101:UInt8),(50:UInt8),(54:UInt8),(53:UInt8),(97:UInt8),(52:UInt8),(48:UInt8),(102:UInt8),(56:UInt8)],[(57:UInt8),(48:UInt8),(53:UInt8),(55:UInt8),(50:UInt8),(52:UInt8),(97:UInt8),(102:UInt8),(101:UInt8),(49:UInt8),(98:UInt8),(99:UInt8),(54:UInt8),(56:UInt8),(51:UInt8),(100:UInt8)],[(50:UInt8),(99:UInt8),(54:UInt8),(97:UInt8),(48:UInt8),(98:UInt8),(56:UInt8),(51:UInt8),(52:UInt8),(100:UInt8),(55:UInt8),(53:UInt8),(102:UInt8),(101:UInt8),(49:UInt8),(57:UInt8)],[(99:UInt8),(53:UInt8),(49:UInt8),(102:UInt8),(101:UInt8),(100:UInt8),(52:UInt8),(97:UInt8),(48:UInt8),(55:UInt8),(54:UInt8),(51:UInt8),(57:UInt8),(50:UInt8),(56:UInt8),(98:UInt8)],[(100:UInt8),(98:UInt8),(55:UInt8),(101:UInt8),(99:UInt8),(49:UInt8),(51:UInt8),(57:UInt8),(53:UInt8),(48:UInt8),(102:UInt8),(52:UInt8),(56:UInt8),(54:UInt8),(50:UInt8),(97:UInt8)],[(54:UInt8),(102:UInt8),(101:UInt8),(57:UInt8),(98:UInt8),(51:UInt8),(48:UInt8),(56:UInt8),(99:UInt8),(50:UInt8),(100:UInt8),(55:UInt8),(49:UInt8),(52:UInt8),(97:UInt8),(53:UInt8)],[(97:UInt8),(50:UInt8),(56:UInt8),(52:UInt8),(55:UInt8),(54:UInt8),(49:UInt8),(53:UInt8),(102:UInt8),(98:UInt8),(57:UInt8),(101:UInt8),(51:UInt8),(99:UInt8),(100:UInt8),(48:UInt8)]],()),())⟩)
theorem adX (pre:Kz->Bool) (F:Kz->OT qS.Y) (hF:∀ (x:Kz) oy,pre x=true->(F x).run=some oy->(ahU).run=some oy):aa ag 197 (qS.aw pre F):=
 cC OP 197 Tryz.f197 qS [Ky] bw (λx=>ahU) hF
def iC:K3:= [[48,49,50,51,52,53,54,55,56,57,97,98,99,100,101,102],
 [101,97,52,56,57,102,100,54,49,99,48,50,98,55,53,51],
 [98,56,99,48,53,50,102,100,97,101,51,54,55,49,57,52],
 [55,57,51,49,100,99,98,101,50,54,53,97,52,48,102,56],
 [57,48,53,55,50,52,97,102,101,49,98,99,54,56,51,100],
 [50,99,54,97,48,98,56,51,52,100,55,53,102,101,49,57],
 [99,53,49,102,101,100,52,97,48,55,54,51,57,50,56,98],
 [100,98,55,101,99,49,51,57,53,48,102,52,56,54,50,97],
 [54,102,101,57,98,51,48,56,99,50,100,55,49,52,97,53],
 [97,50,56,52,55,54,49,53,102,98,57,101,51,99,100,48]]
def N7 (_:Kz):Bool:=true
def ahV (_:Kz):OT qS.Y:=.ok ⟨Ky,((iC,()),())⟩
theorem atU:aa ag 197 (qS.aw N7 ahV):=adX _ _ λx oy _ ho=>ho
def zd:bi:=(qS.aw N7 ahV)
theorem XR:aa ag 197 zd:=atU
theorem XQ:au zd:=aq
def ajp:Env:=ap 197 zd ajo
theorem OQ:bI ag te ajp:=aP follows OP XR XQ
def KJ:af:=⟨[dW,aB,aB,aB,aB,aI,aI],[fV],false,1,true⟩
abbrev at1:Type:=(Unit×Int×Int×Int×Int×UInt64×mJ)×tY
def ad0:aH:=⟨[],[fV],false⟩
def aBh (a1:Int) (a2:Int) (a3:Int) (a4:Int) (a5:UInt64) (a6:UInt64) (c0:ao):OT KJ.Y:=
 let z0:Bool:=inB a1 16
 let z1:Nat:=List.length c0
 let z2:Bool:=decide (Int.toNat a1+0<z1)
 let z3:Bool:=inB a2 16
 let z4:Bool:=inB a4 16
 let z5:ao:=List.set c0 (Int.toNat a1+0) (List.getD c0 (Int.toNat a1+0) (0:UInt64)+(List.getD c0 (Int.toNat a2+0) (0:UInt64)+a5))
 let z6:Nat:=List.length z5
 let z7:Bool:=decide (Int.toNat a4+0<z6)
 let z8:Bool:=inB a3 16
 let z9:ao:=List.set z5 (Int.toNat a4+0) (rotl (List.getD z5 (Int.toNat a4+0) (0:UInt64)^^^List.getD z5 (Int.toNat a1+0) (0:UInt64)) (-32:Int))
 let z10:Nat:=List.length z9
 let z11:Bool:=decide (Int.toNat a3+0<z10)
 let z12:ao:=List.set z9 (Int.toNat a3+0) (List.getD z9 (Int.toNat a3+0) (0:UInt64)+List.getD z9 (Int.toNat a4+0) (0:UInt64))
 let z13:Nat:=List.length z12
 let z14:Bool:=decide (Int.toNat a2+0<z13)
 let z15:ao:=List.set z12 (Int.toNat a2+0) (rotl (List.getD z12 (Int.toNat a2+0) (0:UInt64)^^^List.getD z12 (Int.toNat a3+0) (0:UInt64)) (-24:Int))
 let z16:Nat:=List.length z15
 let z17:Bool:=decide (Int.toNat a1+0<z16)
 let z18:ao:=List.set z15 (Int.toNat a1+0) (List.getD z15 (Int.toNat a1+0) (0:UInt64)+(List.getD z15 (Int.toNat a2+0) (0:UInt64)+a6))
 let z19:Nat:=List.length z18
 let z20:Bool:=decide (Int.toNat a4+0<z19)
 let z21:ao:=List.set z18 (Int.toNat a4+0) (rotl (List.getD z18 (Int.toNat a4+0) (0:UInt64)^^^List.getD z18 (Int.toNat a1+0) (0:UInt64)) (-16:Int))
 let z22:Nat:=List.length z21
 let z23:Bool:=decide (Int.toNat a3+0<z22)
 let z24:ao:=List.set z21 (Int.toNat a3+0) (List.getD z21 (Int.toNat a3+0) (0:UInt64)+List.getD z21 (Int.toNat a4+0) (0:UInt64))
 let z25:Nat:=List.length z24
 let z26:Bool:=decide (Int.toNat a2+0<z25)
 (gd [z0,z2,z3,decide (Int.toNat a2+0<z1),z0,z2,z4,z7,z0,decide (Int.toNat a1+0<z6),z4,z7,z8,z11,z4,decide (Int.toNat a4+0<z10),z8,z11,z3,z14,z8,decide (Int.toNat a3+0<z13),z3,z14,z0,z17,z3,decide (Int.toNat a2+0<z16),z0,z17,z4,z20,z0,decide (Int.toNat a1+0<z19),z4,z20,z8,z23,z4,decide (Int.toNat a4+0<z22),z8,z23,z3,z26,z8,decide (Int.toNat a3+0<z25),z3,z26] (.ok ⟨ad0,((),List.set z24 (Int.toNat a2+0) (rotl (List.getD z24 (Int.toNat a2+0) (0:UInt64)^^^List.getD z24 (Int.toNat a3+0) (0:UInt64)) (-63:Int)),())⟩))
theorem at0 (pre:at1->Bool) (F:at1->OT KJ.Y) (hF:∀ (x:at1) oy,pre x=true->(F x).run=some oy->(aBh x.1.2.1 x.1.2.2.1 x.1.2.2.2.1 x.1.2.2.2.2.1 x.1.2.2.2.2.2.1 x.1.2.2.2.2.2.2.1 x.2.1).run=some oy):aa ag 200 (KJ.aw pre F):=
 cC OQ 200 Tryz.f200 KJ [ad0] bw (λx=>aBh x.1.2.1 x.1.2.2.1 x.1.2.2.2.1 x.1.2.2.2.2.1 x.1.2.2.2.2.2.1 x.1.2.2.2.2.2.2.1 x.2.1) hF
def ayo (v:ao) (a b c d:Nat) (x y:UInt64):ao:=
 let v1:=v.set a (v.getD a 0+(v.getD b 0+x))
 let v2:=v1.set d (rotl (v1.getD d 0^^^v1.getD a 0) (-32))
 let v3:=v2.set c (v2.getD c 0+v2.getD d 0)
 let v4:=v3.set b (rotl (v3.getD b 0^^^v3.getD c 0) (-24))
 let v5:=v4.set a (v4.getD a 0+(v4.getD b 0+y))
 let v6:=v5.set d (rotl (v5.getD d 0^^^v5.getD a 0) (-16))
 let v7:=v6.set c (v6.getD c 0+v6.getD d 0)
 v7.set b (rotl (v7.getD b 0^^^v7.getD c 0) (-63))
theorem qp (v:ao) (a b c d:Nat) (x y:UInt64):(ayo v a b c d x y).length=v.length:=by
 simp only [ayo,dm]
def qV (x:at1):Bool:=inB x.1.2.1 16&&inB x.1.2.2.1 16&&inB x.1.2.2.2.1 16&&inB x.1.2.2.2.2.1 16&&decide (x.2.1.length=16)
def aBi (x:at1):OT KJ.Y:=.ok ⟨ad0,((),ayo x.2.1 x.1.2.1.toNat x.1.2.2.1.toNat x.1.2.2.2.1.toNat x.1.2.2.2.2.1.toNat x.1.2.2.2.2.2.1 x.1.2.2.2.2.2.2.1,())⟩
theorem aEZ:aa ag 200 (KJ.aw qV aBi):=at0 _ _ λx oy hp ho=>by
 rw [<-ho]
 obtain ⟨⟨⟨⟩,a,b,c,d,x,y,⟨⟩⟩,⟨v,⟨⟩⟩⟩:=x
 simp only [qV,av,decide_eq_true_eq] at hp
 obtain ⟨⟨⟨⟨ha,hb⟩,hc⟩,hd⟩,hv⟩:=hp
 have na:=VR ha
 have nb:=VR hb
 have nc:=VR hc
 have nd:=VR hd
 refine (ae ?_).trans rfl
 simp only [dm,hv,ha,hb,hc,hd,Nat.add_zero,na,nb,nc,nd,decide_true,ax,aA,Bool.and_self]
def KH:bi:=(KJ.aw qV aBi)
theorem anv:aa ag 200 KH:=aEZ
theorem anu:au KH:=aq
def aCe:Env:=ap 200 KH ajp
theorem ajs:bI ag te aCe:=aP follows OQ anv anu
def aea:af:=⟨[aB,dW,oV],[fV,(1,.cells [Yr])],false,2,true⟩
abbrev aGK:Type:=kC×ao×df×Unit
def auk:aH:=⟨[aI],[fV,(1,.cells [Yr])],false⟩
def aGI (a0:Int) (c0:ao) (c1_0:aG):OT aea.Y:=
 let z0:Int:=nib (List.getD c1_0 (Int.toNat a0) (0:UInt8))
 (gd [inB a0 (List.length c1_0),inB z0 16,decide (Int.toNat z0+0<List.length c0)] (.ok ⟨auk,((List.getD c0 (Int.toNat z0+0) (0:UInt64),()),c0,(c1_0,()),())⟩))
theorem azH (pre:aGK->Bool) (F:aGK->OT aea.Y) (hF:∀ (x:aGK) oy,pre x=true->(F x).run=some oy->(aGI x.1.1 x.2.1 x.2.2.1.1).run=some oy):aa ag 198 (aea.aw pre F):=
 cC ajs 198 Tryz.f198 aea [auk] bw (λx=>aGI x.1.1 x.2.1 x.2.2.1.1) hF
def atF (m:ao) (row:aG) (i:Int):UInt64:=m.getD (nib (row.getD i.toNat 0)).toNat 0
def ra (x:aGK):Bool:=inB x.1.1 x.2.2.1.1.length&&inB (nib (x.2.2.1.1.getD x.1.1.toNat 0)) 16&&decide (x.2.1.length=16)
def aGJ (x:aGK):OT aea.Y:=.ok ⟨auk,((atF x.2.1 x.2.2.1.1 x.1.1,()),x.2.1,(x.2.2.1.1,()),())⟩
theorem aGH:aa ag 198 (aea.aw ra aGJ):=azH _ _ λx oy hp ho=>by
 rw [<-ho]
 obtain ⟨⟨i,⟨⟩,⟨⟩,⟨⟩⟩,⟨m,⟨row,⟨⟩⟩,⟨⟩⟩⟩:=x
 simp only [ra,av,decide_eq_true_eq] at hp
 obtain ⟨⟨h1,h2⟩,h3⟩:=hp
 have n2:=VR h2
 refine (ae ?_).trans rfl
 simp only [h1,h2,h3,Nat.add_zero,n2,decide_true,ax,aA,Bool.and_self]
def Sl:bi:=(aea.aw ra aGJ)
theorem aul:aa ag 198 Sl:=aGH
theorem auj:au Sl:=aq
def aGY:Env:=ap 198 Sl aCe
theorem zG:bI ag te aGY:=aP follows ajs aul auj
def zj:af:=⟨[auL,.val true (.arr 128 .u8),aI,kZ],[],true,0,false⟩
abbrev Yb:Type:=(ao×aG×UInt64×Bool×Unit)×Unit
def azu:Shape:=⟨127,[dC,rB,BT,(9,fH),(11,B2),(37,aB)],[fV,nD,kW,nE,BV],0,true⟩
abbrev eC:Type:=K4×ao×aG×oL
def vV:Shape:=⟨127,[dC,BX,zx,(11,fH)],Yu,0,true⟩
abbrev q9:Type:=K2×oO
def azF (a37:Int) (c0:ao) (c1:aG) (c2:ao) (c3:ao) (c4:ao):OT (Sum eC aT):=
 let z0:Bool:=inR ((8:Int)*a37)
 let z1:aG:=List.take (Int.toNat ((8:Int)*a37+(8:Int)-(8:Int)*a37)) (List.drop (Int.toNat ((8:Int)*a37)) c1)
 (.br (decide (a37<(16:Int)))
 (gd [z0,z0,inR ((8:Int)*a37+(8:Int)),decide (128<=List.length c1)&&cj ((8:Int)*a37) ((8:Int)*a37+(8:Int)) 128,mA ((z1,()),()),inB a37 16,decide (Int.toNat a37+0<List.length c4),inR (a37+(1:Int))] (.ok (.inl (((),(),(),(),(),a37+(1:Int),()),c0,c1,c2,c3,List.set c4 (Int.toNat a37+0) (Cf z1 (List.length z1)),()))))
 (.ok (.inr ⟨(.exit 0,vV),(((),(),(),(),()),c0,c2,c3,c4,())⟩)))
def GC (s:eC):OT (Sum eC aT):=azF s.1.2.2.2.2.2.1 s.2.1 s.2.2.1 s.2.2.2.1 s.2.2.2.2.1 s.2.2.2.2.2.1
def ah9 (g0_0:eC->q9) (s:eC):OT aT:=(.ok ⟨(.exit 0,vV),g0_0 s⟩)
def azt:Shape:=⟨127,aBu,[fV,oR,kW,nE,(4,.row .str)],0,true⟩
abbrev dV:Type:=aBn
def azs:Shape:=⟨127,[dC,BX,zx,(11,fH),BZ,(16,.fn 198 [3,5]),(51,aB),(59,aB)],auO,0,true⟩
abbrev cU:Type:=(Unit×Yo)×auH
def vT:Shape:=⟨127,[dC,BX,zx,(11,fH),BZ,(16,.fn 198 [3,5]),(51,aB)],auO,0,true⟩
abbrev iq:Type:=(Unit×K4)×auH
def azD (a51:Int) (a59:Int) (c0:ao) (c1:ao) (c2:ao) (c3:ao) (c4:K3) (c5_0:aG):OT (Sum cU aT):=
 let z0:Bool:=inR ((2:Int)*a59)
 let z1:BQ:=((),(),())
 let z2:ao×Fo×PUnit:=(c3,(c5_0,()),())
 let z3:UInt64:=atF c3 c5_0 ((2:Int)*a59)
 let z4:UInt64:=atF c3 c5_0 ((2:Int)*a59+(1:Int))
 (.br (decide (a59<(4:Int)))
 (gd [inR ((4:Int)+a59),inR ((8:Int)+a59),inR ((12:Int)+a59),z0,ra (((2:Int)*a59,z1),z2),z0,inR ((2:Int)*a59+(1:Int)),ra (((2:Int)*a59+(1:Int),z1),z2),qV (((),a59,(4:Int)+a59,(8:Int)+a59,(12:Int)+a59,z3,z4,()),c2,()),inR (a59+(1:Int))] (.ok (.inl (((),(),(),(),(),(),a51,a59+(1:Int),()),c0,c1,ayo c2 (Int.toNat a59) (Int.toNat ((4:Int)+a59)) (Int.toNat ((8:Int)+a59)) (Int.toNat ((12:Int)+a59)) z3 z4,c3,c4,(c5_0,()),()))))
 (.ok (.inr ⟨(.exit 4,vT),(((),(),(),(),(),(),a51,()),c0,c1,c2,c3,c4,(c5_0,()),())⟩)))
def GA (s:cU):OT (Sum cU aT):=azD s.1.2.2.2.2.2.2.1 s.1.2.2.2.2.2.2.2.1 s.2.1 s.2.2.1 s.2.2.2.1 s.2.2.2.2.1 s.2.2.2.2.2.1 s.2.2.2.2.2.2.1.1
def ah7 (g4_4:cU->iq) (s:cU):OT aT:=(.ok ⟨(.exit 4,vT),g4_4 s⟩)
def azr:Shape:=⟨127,[dC,BX,zx,(11,fH),BZ,(16,.fn 198 [3,5]),(51,aB),(80,aB)],auO,0,true⟩
abbrev dA:Type:=(Unit×Yo)×auH
def vS:Shape:=⟨127,aBu,[fV,oR,kW,nE,(4,.row .str)],0,true⟩
abbrev jW:Type:=aBn
def azC (a51:Int) (a80:Int) (c0:ao) (c1:ao) (c2:ao) (c3:ao) (c4:K3) (c5_0:aG):OT (Sum dA aT):=
 let z0:Bool:=inR (a80+(1:Int))
 let z1:Int:=(4:Int)+Int.tmod (a80+(1:Int)) (4:Int)
 let z2:Int:=(8:Int)+Int.tmod (a80+(2:Int)) (4:Int)
 let z3:Int:=(12:Int)+Int.tmod (a80+(3:Int)) (4:Int)
 let z4:Bool:=inR ((2:Int)*a80)
 let z5:BQ:=((),(),())
 let z6:ao×Fo×PUnit:=(c3,(c5_0,()),())
 let z7:UInt64:=atF c3 c5_0 ((8:Int)+(2:Int)*a80)
 let z8:UInt64:=atF c3 c5_0 ((9:Int)+(2:Int)*a80)
 (.br (decide (a80<(4:Int)))
 (gd [z0,inR z1,inR (a80+(2:Int)),inR z2,inR (a80+(3:Int)),inR z3,z4,inR ((8:Int)+(2:Int)*a80),ra (((8:Int)+(2:Int)*a80,z5),z6),z4,inR ((9:Int)+(2:Int)*a80),ra (((9:Int)+(2:Int)*a80,z5),z6),qV (((),a80,z1,z2,z3,z7,z8,()),c2,()),z0] (.ok (.inl (((),(),(),(),(),(),a51,a80+(1:Int),()),c0,c1,ayo c2 (Int.toNat a80) (Int.toNat z1) (Int.toNat z2) (Int.toNat z3) z7 z8,c3,c4,(c5_0,()),()))))
 (.ok (.inr ⟨(.exit 6,vS),(((),(),(),(),(),a51,()),c0,c1,c2,c3,c4,())⟩)))
def Gz (s:dA):OT (Sum dA aT):=azC s.1.2.2.2.2.2.2.1 s.1.2.2.2.2.2.2.2.1 s.2.1 s.2.2.1 s.2.2.2.1 s.2.2.2.2.1 s.2.2.2.2.2.1 s.2.2.2.2.2.2.1.1
def ah6 (g6_6:dA->jW) (s:dA):OT aT:=(.ok ⟨(.exit 6,vS),g6_6 s⟩)
def vU:Shape:=⟨127,[dC,BX,zx],Yt,0,true⟩
abbrev qZ:Type:=nC×oL
def azE (ok4:cU->Bool) (g4_4:cU->iq) (ok6:dA->Bool) (g6_6:dA->jW) (a51:Int) (c0:ao) (c1:ao) (c2:ao) (c3:ao) (c4:K3):OT (Sum dV aT):=
 let z0:Int:=Int.tmod a51 (10:Int)
 let z1:cU:=(((),(),(),(),(),(),a51,(0:Int),()),c0,c1,c2,c3,c4,(List.getD c4 (Int.toNat z0+0) [],()),())
 let z2:iq:=g4_4 z1
 let z3:=z2.snd
 let z4:=z3.snd
 let z5:=z4.snd
 let z6:=z5.snd
 let z7:=z6.snd
 let z8:cU:=(((),(),(),(),(),(),z2.fst.snd.snd.snd.snd.snd.snd.fst,(0:Int),()),z3.fst,z4.fst,z5.fst,z6.fst,z7.fst,(z7.snd.fst.fst,()),())
 let z9:dV:=g6_6 z8
 let z10:=z9.snd
 let z11:=z10.snd
 let z12:=z11.snd
 let z13:=z12.snd
 (.br (decide (a51<(12:Int)))
 (gd [inB z0 10,decide (Int.toNat z0+0<List.length c4),ok4 z1,ok6 z8,inR (z9.fst.snd.snd.snd.snd.snd.fst+(1:Int))] (.ok (.inl (((),(),(),(),(),z9.fst.snd.snd.snd.snd.snd.fst+(1:Int),()),z10.fst,z11.fst,z12.fst,z13.fst,z13.snd.fst,()))))
 (.ok (.inr ⟨(.exit 2,vU),(((),(),(),()),c0,c1,c2,())⟩)))
def GB (ok4:cU->Bool) (g4_4:cU->iq) (ok6:dA->Bool) (g6_6:dA->jW) (s:dV):OT (Sum dV aT):=azE ok4 g4_4 ok6 g6_6 s.1.2.2.2.2.2.1 s.2.1 s.2.2.1 s.2.2.2.1 s.2.2.2.2.1 s.2.2.2.2.2.1
def ah8 (g2_2:dV->qZ) (s:dV):OT aT:=(.ok ⟨(.exit 2,vU),g2_2 s⟩)
def azq:Shape:=⟨127,[dC,BX,zx,(109,aB)],Yt,0,true⟩
abbrev eB:Type:=(Unit×kU)×oL
def vR:Shape:=⟨127,[dC,BX],mN,0,true⟩
abbrev qY:Type:=mH
def azB (a109:Int) (c0:ao) (c1:ao) (c2:ao):OT (Sum eB aT):=
 let z0:Bool:=inB a109 8
 let z1:Bool:=decide (Int.toNat a109+0<List.length c0)
 let z2:Nat:=List.length c2
 (.br (decide (a109<(8:Int)))
 (gd [z0,z1,inB a109 16,decide (Int.toNat a109+0<z2),inR (a109+(8:Int)),inB (a109+(8:Int)) 16,decide (Int.toNat (a109+(8:Int))+0<z2),z0,z1,inR (a109+(1:Int))] (.ok (.inl (((),(),(),a109+(1:Int),()),List.set c0 (Int.toNat a109+0) (List.getD c0 (Int.toNat a109+0) (0:UInt64)^^^(List.getD c2 (Int.toNat a109+0) (0:UInt64)^^^List.getD c2 (Int.toNat (a109+(8:Int))+0) (0:UInt64))),c1,c2,()))))
 (.ok (.inr ⟨(.exit 8,vR),(((),(),()),c0,c1,())⟩)))
def Gy (s:eB):OT (Sum eB aT):=azB s.1.2.2.2.1 s.2.1 s.2.2.1 s.2.2.2.1
def ah5 (g8_8:eB->qY) (s:eB):OT aT:=(.ok ⟨(.exit 8,vR),g8_8 s⟩)
def Gx:aH:=⟨[auL],[],false⟩
def auf (ok0:eC->Bool) (g0_0:eC->q9) (ok4:cU->Bool) (g4_4:cU->iq) (ok6:dA->Bool) (g6_6:dA->jW) (ok2:dV->Bool) (g2_2:dV->qZ) (ok8:eB->Bool) (g8_8:eB->qY) (a0:ao) (a1:aG) (a2:UInt64) (a3:Bool):OT zj.Y:=
 let z0:PUnit×PUnit×auE:=((),(),(),(),(),(0:Int),())
 let z1:ao:=tab a0 8 (0:UInt64)
 let z2:aG:=tab a1 128 (0:UInt8)
 let z3:ao:= []++(List.take 8 z1++List.drop (0+min (List.length z1) 8) [(0:UInt64),(0:UInt64),(0:UInt64),(0:UInt64),(0:UInt64),(0:UInt64),(0:UInt64),(0:UInt64),(0:UInt64),(0:UInt64),(0:UInt64),(0:UInt64),(0:UInt64),(0:UInt64),(0:UInt64),(0:UInt64)])
 let z4:ao:=List.take 8 z3++([(7640891576956012808:UInt64),(13503953896175478587:UInt64),(4354685564936845355:UInt64),(11912009170470909681:UInt64),(5840696475078001361:UInt64),(11170449401992604703:UInt64),(2270897969802886507:UInt64),(6620516959819538809:UInt64)]++List.drop 16 z3)
 let z5:ao:=List.set z4 12 (List.getD z4 12 0^^^a2)
 let z6:ao×PUnit:=([(0:UInt64),(0:UInt64),(0:UInt64),(0:UInt64),(0:UInt64),(0:UInt64),(0:UInt64),(0:UInt64),(0:UInt64),(0:UInt64),(0:UInt64),(0:UInt64),(0:UInt64),(0:UInt64),(0:UInt64),(0:UInt64)],())
 let z7:eC:=(z0,z1,z2,[(0:UInt64),(0:UInt64),(0:UInt64),(0:UInt64),(0:UInt64),(0:UInt64),(0:UInt64),(0:UInt64)],List.set z5 14 (~~~List.getD z5 14 0),z6)
 let z8:PUnit×PUnit×auE:=((),(),(),(),(),(0:Int),())
 let z9:=(g0_0 z7).snd
 let z10:=z9.snd
 let z11:=z10.snd
 let z12:K3×PUnit:=([List.getD iC 0 [],List.getD iC 1 [],List.getD iC 2 [],List.getD iC 3 [],List.getD iC 4 [],List.getD iC 5 [],List.getD iC 6 [],List.getD iC 7 [],List.getD iC 8 [],List.getD iC 9 []],())
 let z13:dV:=(z8,z9.fst,z10.fst,z11.fst,z11.snd.fst,z12)
 let z14:auE:=((),(),(),(0:Int),())
 let z15:=(g2_2 z13).snd
 let z16:=z15.snd
 let z17:eB:=(z14,z15.fst,z16.fst,z16.snd.fst,())
 let z18:=(g8_8 z17).snd
 let z19:=z18.fst
 let z20:=z18.snd.fst
 let z21:ao:=lay z20 z19 8 (0:UInt64)
 let z22:eC:=(z0,z1,z2,[(0:UInt64),(0:UInt64),(0:UInt64),(0:UInt64),(0:UInt64),(0:UInt64),(0:UInt64),(0:UInt64)],z5,z6)
 let z23:=(g0_0 z22).snd
 let z24:=z23.snd
 let z25:=z24.snd
 let z26:dV:=(z8,z23.fst,z24.fst,z25.fst,z25.snd.fst,z12)
 let z27:=(g2_2 z26).snd
 let z28:=z27.snd
 let z29:eB:=(z14,z27.fst,z28.fst,z28.snd.fst,())
 let z30:=(g8_8 z29).snd
 let z31:=z30.fst
 let z32:=z30.snd.fst
 let z33:ao:=lay z32 z31 8 (0:UInt64)
 (.br (a3)
 (gd [ok0 z7,ok2 z13,ok8 z17,decide (8<=List.length z19),decide ((8/1:Nat)+0<=List.length z20),decide (8<=List.length z21)] (.ok ⟨Gx,((tab z21 8 (0:UInt64),()),())⟩))
 (gd [ok0 z22,ok2 z26,ok8 z29,decide (8<=List.length z31),decide ((8/1:Nat)+0<=List.length z32),decide (8<=List.length z33)] (.ok ⟨Gx,((tab z33 8 (0:UInt64),()),())⟩)))
theorem anx (ok0:eC->Bool) (g0_0:eC->q9) (ok4:cU->Bool) (g4_4:cU->iq) (ok6:dA->Bool) (g6_6:dA->jW) (ok2:dV->Bool) (g2_2:dV->qZ) (ok8:eB->Bool) (g8_8:eB->qY) (h0:aY GC ok0 (ah9 g0_0)) (h4:aY GA ok4 (ah7 g4_4)) (h6:aY Gz ok6 (ah6 g6_6)) (h2:aY (GB ok4 g4_4 ok6 g6_6) ok2 (ah8 g2_2)) (h8:aY Gy ok8 (ah5 g8_8)) (pre:Yb->Bool) (F:Yb->OT zj.Y) (hF:∀ (x:Yb) oy,pre x=true->(F x).run=some oy->(auf ok0 g0_0 ok4 g4_4 ok6 g6_6 ok2 g2_2 ok8 g8_8 x.1.1 x.1.2.1 x.1.2.2.1 x.1.2.2.2.1).run=some oy):aa ag 183 (zj.aw pre F):=
 cC zG 183 Tryz.f183 zj [Gx] (js zG 8 azq [(8,vR)] none none Gy bw h8 (js zG 2 azt [(2,vU)] none none (GB ok4 g4_4 ok6 g6_6) (js zG 6 azr [(6,vS)] none none Gz bw h6 (js zG 4 azs [(4,vT)] none none GA bw h4 bw)) h2 (js zG 0 azu [(0,vV)] none none GC bw h0 bw))) (λx=>auf ok0 g0_0 ok4 g4_4 ok6 g6_6 ok2 g2_2 ok8 g8_8 x.1.1 x.1.2.1 x.1.2.2.1 x.1.2.2.2.1) hF
def az0 (b:aG) (i:Nat):UInt64:=Cf ((b.drop (8*i)).take 8) 8
def wL (b:aG):ao:=upto (λk m=>m.set k (az0 b k)) (List.replicate 16 0) 16
def PB (row:aG):Bool:=decide (row.length=16)&&(List.range 16).all λi=>inB (nib (row.getD i 0)) 16
theorem apc {row:List UInt8} (h:PB row=true) {i:Nat} (hi:i<16):inB (nib (row.getD i 0)) 16=true:=by
 simp only [PB,av,fX] at h
 exact h.2 i (by simpa using hi)
theorem vW {m:List UInt64} {row:List UInt8} (hm:m.length=16) (hr:PB row=true) {i:Int} (h0:0<=i) (h1:i<16) (u:mK) (u2:Unit) (u3:Unit):ra ((i,u),m,(row,u2),u3)=true:=by
 have hl:row.length=16:=by
  simp only [PB,av,decide_eq_true_eq] at hr
  exact hr.1
 have:=apc hr (i:=i.toNat) (by omega)
 simp only [ra,av,decide_eq_true_eq]
 exact ⟨⟨aR (by omega),this⟩,hm⟩
theorem KI {v:List UInt64} (hv:v.length=16) {a b c d:Int} (ha:0<=a/\a<16) (hb:0<=b/\b<16) (hc:0<=c/\c<16) (hd:0<=d/\d<16) (x y:UInt64) (u1 u2 u3:Unit):qV ((u1,a,b,c,d,x,y,u2),v,u3)=true:=by
 simp only [qV,av,decide_eq_true_eq]
 exact ⟨⟨⟨⟨aR ha,aR hb⟩,aR hc⟩,aR hd⟩,hv⟩
def KX (s:eC):Bool:=decide (s.1.2.2.2.2.2.1=0/\s.2.2.1.length=128/\s.2.2.2.2.2.1=List.replicate 16 0)
def vQ (s:eC):q9:=(((),(),(),(),()),s.2.1,s.2.2.2.1,s.2.2.2.2.1,wL s.2.2.1,())
theorem azA:aY GC KX (ah9 vQ):=by
 rintro ⟨⟨⟨⟩,⟨⟩,⟨⟩,⟨⟩,⟨⟩,i,⟨⟩⟩,⟨c0,c1,c2,c3,c4,⟨⟩⟩⟩ h
 have h':=bh h
 dsimp only at h'
 obtain ⟨rfl,hl,rfl⟩:=h'
 have:=(aW (T:=GC) (λk m=>((((),(),(),(),(),(k:Int),()),c0,c1,c2,c3,m,()):eC)) (λk m=>m.set k (az0 c1 k))
  (λm=>(⟨(.exit 0,vV),(((),(),(),(),()),c0,c2,c3,m,())⟩:aT)) 16 (List.replicate 16 0) (λ_ m=>m.length=16) (by simp) (λk m hk hm=>⟨?_,by rw [dm];exact hm⟩) (λm hm=> ?_)).1
 ·obtain ⟨n,hn⟩:=this
  exact ⟨n,_,hn,rfl⟩
 ·have e1:(8*(k:Int)+8-8*(k:Int)).toNat=8:=by omega
  have e2:(8*(k:Int)).toNat=8*k:=by omega
  have hw:((c1.drop (8*k)).take 8).length=8:=by simp;omega
  refine (OT.ak (aj (by dsimp only;omega))).trans ((ae ?_).trans ?_)
  ·simp only [e1,e2,hl,hm,ax,aA,aC,av]
   refine ⟨aL (by omega),aL (by omega),aL (by omega),⟨by decide,cA (by omega)⟩,?_,aR (by omega),aj (by omega),aL (by omega)⟩
   simp only [mA,hw]
   decide
  ·simp only [OT.gb,e1,e2,hw,Nat.add_zero]
   rfl
 ·exact OT.al (bn (by dsimp only;omega))
def arI (m:ao) (row:aG) (v:ao):ao:=upto (λk v=>ayo v k (4+k) (8+k) (12+k) (atF m row (2*(k:Int))) (atF m row (2*(k:Int)+1))) v 4
def arH (m:ao) (row:aG) (v:ao):ao:=upto (λk v=>ayo v k (4+(k+1)%4) (8+(k+2)%4) (12+(k+3)%4) (atF m row (8+2*(k:Int))) (atF m row (9+2*(k:Int)))) v 4
theorem s7 (m:ao) (row:aG) (v:ao):(arI m row v).length=v.length:=by simp only [arI,upto,qp]
theorem E6 (m:ao) (row:aG) (v:ao):(arH m row v).length=v.length:=by simp only [arH,upto,qp]
def oH (s:cU):Bool:=decide (s.1.2.2.2.2.2.2.2.1=0/\s.2.2.2.1.length=16/\s.2.2.2.2.1.length=16)&&PB s.2.2.2.2.2.2.1.1
def qX (s:cU):iq:=(((),(),(),(),(),(),s.1.2.2.2.2.2.2.1,()),s.2.1,s.2.2.1,arI s.2.2.2.2.1 s.2.2.2.2.2.2.1.1 s.2.2.2.1,s.2.2.2.2.1,s.2.2.2.2.2.1,(s.2.2.2.2.2.2.1.1,()),())
theorem azy:aY GA oH (ah7 qX):=by
 rintro ⟨⟨⟨⟩,⟨⟩,⟨⟩,⟨⟩,⟨⟩,⟨⟩,r,i,⟨⟩⟩,⟨c0,c1,v,m,c4,⟨row,⟨⟩⟩,⟨⟩⟩⟩ h
 simp only [oH,av,decide_eq_true_eq] at h
 obtain ⟨⟨rfl,hv,hm⟩,hr⟩:=h
 have:=(aW (T:=GA) (λk v=>((((),(),(),(),(),(),r,(k:Int),()),c0,c1,v,m,c4,(row,()),()):cU)) (λk v=>ayo v k (4+k) (8+k) (12+k) (atF m row (2*(k:Int))) (atF m row (2*(k:Int)+1)))
  (λv=>(⟨(.exit 4,vT),(((),(),(),(),(),(),r,()),c0,c1,v,m,c4,(row,()),())⟩:aT)) 4 v (λ_ v=>v.length=16) hv (λk v hk hv=>⟨?_,by rw [qp];exact hv⟩) (λv hv=> ?_)).1
 ·obtain ⟨n,hn⟩:=this
  exact ⟨n,_,hn,rfl⟩
 ·have e1:(4+(k:Int)).toNat=4+k:=by omega
  have e2:(8+(k:Int)).toNat=8+k:=by omega
  have e3:(12+(k:Int)).toNat=12+k:=by omega
  refine (OT.ak (aj (by dsimp only;omega))).trans ((ae ?_).trans ?_)
  ·simp only [ax,aA,aC,av]
   exact ⟨aL (by omega),aL (by omega),aL (by omega),aL (by omega),vW hm hr (by omega) (by omega) _ _ _,aL (by omega),aL (by omega),vW hm hr (by omega) (by omega) _ _ _,KI hv (by omega) (by omega) (by omega) (by omega) _ _ _ _ _,aL (by omega)⟩
  ·simp only [OT.gb,e1,e2,e3]
   rfl
 ·exact OT.al (bn (by dsimp only;omega))
def oG (s:dA):Bool:=decide (s.1.2.2.2.2.2.2.2.1=0/\s.2.2.2.1.length=16/\s.2.2.2.2.1.length=16)&&PB s.2.2.2.2.2.2.1.1
def vO (s:dA):jW:=(((),(),(),(),(),s.1.2.2.2.2.2.2.1,()),s.2.1,s.2.2.1,arH s.2.2.2.2.1 s.2.2.2.2.2.2.1.1 s.2.2.2.1,s.2.2.2.2.1,s.2.2.2.2.2.1,())
theorem azx:aY Gz oG (ah6 vO):=by
 rintro ⟨⟨⟨⟩,⟨⟩,⟨⟩,⟨⟩,⟨⟩,⟨⟩,r,i,⟨⟩⟩,⟨c0,c1,v,m,c4,⟨row,⟨⟩⟩,⟨⟩⟩⟩ h
 simp only [oG,av,decide_eq_true_eq] at h
 obtain ⟨⟨rfl,hv,hm⟩,hr⟩:=h
 have:=(aW (T:=Gz) (λk v=>((((),(),(),(),(),(),r,(k:Int),()),c0,c1,v,m,c4,(row,()),()):dA)) (λk v=>ayo v k (4+(k+1)%4) (8+(k+2)%4) (12+(k+3)%4) (atF m row (8+2*(k:Int))) (atF m row (9+2*(k:Int))))
  (λv=>(⟨(.exit 6,vS),(((),(),(),(),(),r,()),c0,c1,v,m,c4,())⟩:aT)) 4 v (λ_ v=>v.length=16) hv (λk v hk hv=>⟨?_,by rw [qp];exact hv⟩) (λv hv=> ?_)).1
 ·obtain ⟨n,hn⟩:=this
  exact ⟨n,_,hn,rfl⟩
 ·have t1:Int.tmod ((k:Int)+1) 4=(((k+1)%4:Nat):Int):=by rw [Int.tmod_eq_emod_of_nonneg (by omega)];omega
  have t2:Int.tmod ((k:Int)+2) 4=(((k+2)%4:Nat):Int):=by rw [Int.tmod_eq_emod_of_nonneg (by omega)];omega
  have t3:Int.tmod ((k:Int)+3) 4=(((k+3)%4:Nat):Int):=by rw [Int.tmod_eq_emod_of_nonneg (by omega)];omega
  have e1:(4+(((k+1)%4:Nat):Int)).toNat=4+(k+1)%4:=by omega
  have e2:(8+(((k+2)%4:Nat):Int)).toNat=8+(k+2)%4:=by omega
  have e3:(12+(((k+3)%4:Nat):Int)).toNat=12+(k+3)%4:=by omega
  refine (OT.ak (aj (by dsimp only;omega))).trans ((ae ?_).trans ?_)
  ·simp only [t1,t2,t3,ax,aA,aC,av]
   exact ⟨aL (by omega),aL (by omega),aL (by omega),aL (by omega),aL (by omega),aL (by omega),aL (by omega),aL (by omega),vW hm hr (by omega) (by omega) _ _ _,aL (by omega),aL (by omega),vW hm hr (by omega) (by omega) _ _ _,KI hv (by omega) (by omega) (by omega) (by omega) _ _ _ _ _,aL (by omega)⟩
  ·simp only [OT.gb,t1,t2,t3,e1,e2,e3]
   rfl
 ·exact OT.al (bn (by dsimp only;omega))
def rowAt (k:Nat):aG:=iC.getD (k%10) []
theorem aw1 (k:Nat):PB (rowAt k)=true:=by
 have:k%10<10:=Nat.mod_lt _ (by decide)
 unfold rowAt
 generalize k%10=j at this
 have h:∀ j:Fin 10,PB (iC.getD j.val [])=true:=by decide+kernel
 exact h ⟨j,this⟩
def Ak (m:ao) (v:ao):ao:=upto (λk v=>arH m (rowAt k) (arI m (rowAt k) v)) v 12
theorem o5 {f:Nat->List UInt64->List UInt64} (hf:∀ k v,(f k v).length=v.length) (v:ao):∀ n,(upto f v n).length=v.length
 |0=>rfl
 |n+1=>by simp only [upto,hf,o5 hf v n]
def KW (s:dV):Bool:=decide (s.1.2.2.2.2.2.1=0/\s.2.2.2.1.length=16/\s.2.2.2.2.1.length=16/\s.2.2.2.2.2.1=iC)
def vP (s:dV):qZ:=(((),(),(),()),s.2.1,s.2.2.1,Ak s.2.2.2.2.1 s.2.2.2.1,())
theorem azz:aY (GB oH qX oG vO) KW (ah8 vP):=by
 rintro ⟨⟨⟨⟩,⟨⟩,⟨⟩,⟨⟩,⟨⟩,i,⟨⟩⟩,⟨c0,c1,v,m,c4,⟨⟩⟩⟩ h
 have h':=bh h
 dsimp only at h'
 obtain ⟨rfl,hv,hm,rfl⟩:=h'
 have:=(aW (T:=GB oH qX oG vO) (λk v=>((((),(),(),(),(),(k:Int),()),c0,c1,v,m,iC,()):dV)) (λk v=>arH m (rowAt k) (arI m (rowAt k) v))
  (λv=>(⟨(.exit 2,vU),(((),(),(),()),c0,c1,v,())⟩:aT)) 12 v (λ_ v=>v.length=16) hv (λk v hk hv=>⟨?_,by rw [E6,s7];exact hv⟩) (λv hv=> ?_)).1
 ·obtain ⟨n,hn⟩:=this
  exact ⟨n,_,hn,rfl⟩
 ·have t1:Int.tmod (k:Int) 10=((k%10:Nat):Int):=by rw [Int.tmod_eq_emod_of_nonneg (by omega)];omega
  have e1:((k%10:Nat):Int).toNat=k%10:=by omega
  have hr:PB (iC.getD (k%10) [])=true:=aw1 k
  refine (OT.ak (aj (by dsimp only;omega))).trans ((ae ?_).trans ?_)
  ·simp only [t1,e1,ax,aA,aC,av]
   refine ⟨aR (by omega),aj (show k%10+0<10 by omega),?_,?_,?_⟩
   ·simp only [oH,av,decide_eq_true_eq]
    exact ⟨⟨trivial,hv,hm⟩,hr⟩
   ·simp only [oG,qX,av,decide_eq_true_eq]
    exact ⟨⟨trivial,by rw [s7];exact hv,hm⟩,hr⟩
   ·exact aL (by simp only [vO,qX];omega)
  ·have hrow:iC.getD (k%10) []=rowAt k:=rfl
   simp only [OT.gb,t1,e1,Nat.add_zero,vO,qX,hrow]
   rfl
 ·exact OT.al (bn (by dsimp only;omega))
def agw (h v:ao):ao:=upto (λk h=>h.set k (h.getD k 0^^^(v.getD k 0^^^v.getD (k+8) 0))) h 8
def KV (s:eB):Bool:=decide (s.1.2.2.2.1=0/\s.2.1.length=8/\s.2.2.2.1.length=16)
def vN (s:eB):qY:=(((),(),()),agw s.2.1 s.2.2.2.1,s.2.2.1,())
theorem azw:aY Gy KV (ah5 vN):=by
 rintro ⟨⟨⟨⟩,⟨⟩,⟨⟩,i,⟨⟩⟩,⟨h,c1,v,⟨⟩⟩⟩ hh
 have h':=bh hh
 dsimp only at h'
 obtain ⟨rfl,hl,hv⟩:=h'
 have:=(aW (T:=Gy) (λk h=>((((),(),(),(k:Int),()),h,c1,v,()):eB)) (λk h=>h.set k (h.getD k 0^^^(v.getD k 0^^^v.getD (k+8) 0)))
  (λh=>(⟨(.exit 8,vR),(((),(),()),h,c1,())⟩:aT)) 8 h (λ_ h=>h.length=8) hl (λk h hk hl=>⟨?_,by rw [dm];exact hl⟩) (λh hl=> ?_)).1
 ·obtain ⟨n,hn⟩:=this
  exact ⟨n,_,hn,rfl⟩
 ·have e1:((k:Int)+8).toNat=k+8:=by omega
  refine (OT.ak (aj (by dsimp only;omega))).trans ((ae ?_).trans ?_)
  ·simp only [e1,hl,hv,ax,aA,aC,av]
   exact ⟨aR (by omega),aj (by omega),aR (by omega),aj (by omega),aL (by omega),aR (by omega),aj (by omega),aR (by omega),aj (by omega),aL (by omega)⟩
  ·simp only [OT.gb,e1,Nat.add_zero]
   rfl
 ·exact OT.al (bn (by dsimp only;omega))
def QF (h:ao) (count:UInt64) (last:Bool):ao:=
 let v:=(h++bIV).set 12 ((h++bIV).getD 12 0^^^count)
 cond last (v.set 14 (~~~v.getD 14 0)) v
def D2 (h:ao) (b:aG) (count:UInt64) (last:Bool):ao:=agw h (Ak (wL b) (QF h count last))
theorem Lz (b:aG):(wL b).length=16:=by
 unfold wL;rw [o5 (λk v=>dm)];rfl
theorem Ht (m v:ao):(Ak m v).length=v.length:=o5 (λk v=>by rw [E6,s7]) v 12
theorem AU (h v:ao):(agw h v).length=h.length:=o5 (λk v=>dm) h 8
theorem Fl {b:List UInt8} {c0 c2 c3:List UInt64} (hb:b.length=128):KX (((),(),(),(),(),0,()),c0,b,c2,c3,[0,0,0,0,0,0,0,0,0,0,0,0,0,0,0,0],())=true:=aj ⟨rfl,hb,rfl⟩
theorem Fk {c0 c1 v m:List UInt64} (hv:v.length=16) (hm:m.length=16):KW (((),(),(),(),(),0,()),c0,c1,v,m,iC,())=true:=aj ⟨rfl,hv,hm,rfl⟩
theorem Fj {c0 c1 v:List UInt64} (h0:c0.length=8) (hv:v.length=16):KV (((),(),(),0,()),c0,c1,v,())=true:=aj ⟨rfl,h0,hv⟩
def KU (x:Yb):Bool:=decide (x.1.1.length=8/\x.1.2.1.length=128)
def aug (x:Yb):OT zj.Y:=.ok ⟨Gx,((D2 x.1.1 x.1.2.1 x.1.2.2.1 x.1.2.2.2.1,()),())⟩
theorem azv:aa ag 183 (zj.aw KU aug):=anx KX vQ oH qX oG vO KW vP KV vN azA azy azx azz azw _ _ λx oy hp ho=>by
 rw [<-ho]
 obtain ⟨⟨h,b,count,last,⟨⟩⟩,⟨⟩⟩:=x
 simp only [KU,decide_eq_true_eq] at hp
 obtain ⟨hh,hb⟩:=hp
 have t1:tab h 8 0=h:=Ab hh
 have t2:tab b 128 0=b:=Ab hb
 have t3:tab iC 10 []=iC:=Ab rfl
 have v1: []++(List.take 8 h++List.drop (0+min h.length 8) [(0:UInt64),0,0,0,0,0,0,0,0,0,0,0,0,0,0,0])=h++List.replicate 8 0:=by
  rw [hh,List.nil_append,List.take_of_length_le (by omega)];rfl
 have v2:List.take 8 (h++List.replicate 8 (0:UInt64))++(bIV++List.drop 16 (h++List.replicate 8 (0:UInt64)))=h++bIV:=by
  rw [List.take_append_of_le_length (by omega),List.take_of_length_le (by omega),List.drop_eq_nil_of_le (by simp;omega),List.append_nil]
 have hv:∀ c l,(QF h c l).length=16:=λc l=>by
  unfold QF
  cases l<;>simp [hh]<;>rfl
 have hm:(wL b).length=16:=Lz b
 have hr:∀ c l,(Ak (wL b) (QF h c l)).length=16:=λc l=>by rw [Ht];exact hv c l
 have hM:∀ c l,(D2 h b c l).length=8:=λc l=>by unfold D2;rw [AU];exact hh
 have e8: [(7640891576956012808:UInt64),13503953896175478587,4354685564936845355,11912009170470909681,5840696475078001361,11170449401992604703,2270897969802886507,6620516959819538809]=bIV:=rfl
 have key:∀ M:List UInt64,M.length=8->tab (lay [(0:UInt64),0,0,0,0,0,0,0] M 8 0) 8 0=M:=λM hM=>by rw [Vt (n:=8) rfl hM,Ab hM]
 have l1:List.set (h++bIV) 12 ((h++bIV).getD 12 0^^^count)=QF h count false:=rfl
 have l2:List.set (QF h count false) 14 (~~~(QF h count false).getD 14 0)=QF h count true:=rfl
 have l3:∀ c l,agw h (Ak (wL b) (QF h c l))=D2 h b c l:=λ_ _=>rfl
 cases last
 ·refine (OT.al rfl).trans ((ae ?_).trans ?_)
  ·simp only [t1,t2,t3,v1,ax,aA,aC,av]
   rw [e8]
   simp only [v2,vQ,vP,vN,l1,l3,og,hM]
   exact ⟨Fl hb,Fk (hv _ _) hm,Fj hh (hr _ _),rfl,rfl,rfl⟩
  ·simp only [t1,t2,t3,v1]
   rw [e8]
   simp only [v2,vQ,vP,vN,l1,l3]
   rw [key _ (hM _ _)]
   rfl
 ·refine (OT.ak rfl).trans ((ae ?_).trans ?_)
  ·simp only [t1,t2,t3,v1,ax,aA,aC,av]
   rw [e8]
   simp only [v2,vQ,vP,vN,l1,l2,l3,og,hM]
   exact ⟨Fl hb,Fk (hv _ _) hm,Fj hh (hr _ _),rfl,rfl,rfl⟩
  ·simp only [t1,t2,t3,v1]
   rw [e8]
   simp only [v2,vQ,vP,vN,l1,l2,l3]
   rw [key _ (hM _ _)]
   rfl
def Eg:bi:=(zj.aw KU aug)
theorem ad8:aa ag 183 Eg:=azv
theorem ad7:au Eg:=aq
def aen:Env:=ap 183 Eg aGY
theorem Lw:bI ag te aen:=aP follows zG ad8 ad7
def jr:af:=⟨[iE],[],true,0,false⟩
abbrev ad9:Type:=df×Unit
def tV:aH:=⟨[.own 0],zA,false⟩
def Oe:SV->Option aH:=λ_=>some tV
def Sk (a0:aG):OT jr.Y:=
 (gd [decide (((0:Nat)+List.length a0)*(1:Nat)<=(140737488355328:Nat))] (.ok ⟨tV,(((),()),[]++a0,())⟩))
def aui:OT jr.Y:=.ok ⟨tV,(((),()),[],())⟩
theorem azG (x:ad9) (Q:jr.Y->Prop):wpf te aen fC 1000 Tryz.f55 (jr.inp.inj x).tm (jr.inp.inj x).hp (fnK jr Oe Q) (λ_ _=>False)=
 Bool.rec (motive:=λ_=>Prop) ((Sk x.1.1).wpR Q) (aui.wpR Q/\(Sk x.1.1).wpR Q) (List.isEmpty x.1.1):=by kernel_rfl
def fe (x:ad9):Bool:=decide (x.1.1.length<=140737488355328)
def aia (x:ad9):OT jr.Y:=.ok ⟨tV,(((),()),x.1.1,())⟩
theorem auh:aa ag 55 (jr.aw fe aia):=by
 refine ayM aki Lw.ok Lw.any (f:=55) (fn:=Tryz.f55) (c:=mw Tryz.f55) (by kernel_rfl) (by kernel_rfl) (by kernel_rfl) (S:=jr) (k:=0) (by kernel_rfl) (Λ:=fC) (λR hR=>AX) (n:=1000) λx oy hp hr=>⟨fnK jr Oe (λz=>z=oy),λ_ _=>False,?_,λv hp hq=> ?_,λ_ _ hq=>hq.elim⟩
 ·refine (azG x _).mpr ?_
  cases hr
  have hp':x.1.1.length<=140737488355328:=bh hp
  have h1:(Sk x.1.1).wpR (λz=>z=⟨tV,(((),()),x.1.1,())⟩):=by
   rw [OT.Ez]
   refine OT.iH (ae ?_) rfl
   simp only [ax,aA,aC]
   exact aj (by omega)
  cases hb:List.isEmpty x.1.1
  ·exact h1
  ·refine ⟨?_,h1⟩
   rw [List.isEmpty_iff.1 hb]
   rfl
 ·unfold fnK at hq
  split at hq
  ·rename_i o ho
   split at hq
   ·rename_i y hy
    subst hq
    exact ⟨by cases ho;rfl,hy⟩
   ·exact hq.elim
  ·exact hq.elim
def zk:bi:=(jr.aw fe aia)
theorem Yd:aa ag 55 zk:=auh
theorem Yc:au zk:=aq
def ajv:Env:=ap 55 zk aen
theorem OU:bI ag te ajv:=aP follows Lw Yd Yc
def KE:af:=⟨[Yr,aB],[],true,0,false⟩
abbrev atY:Type:=(aG×eE)×Unit
def KD:aH:=⟨[.rI,aB],[],false⟩
def adY:aH:=⟨Ft,[Yx,nD],false⟩
def N9 (a0:aG) (a1:Int):OT KE.Y:=
 let z0:aG:=List.take 16 a0++List.drop (List.length a0) [(0:UInt8),(0:UInt8),(0:UInt8),(0:UInt8),(0:UInt8),(0:UInt8),(0:UInt8),(0:UInt8),(0:UInt8),(0:UInt8),(0:UInt8),(0:UInt8),(0:UInt8),(0:UInt8),(0:UInt8),(0:UInt8)]
 let z1:Bool:=decide (16<=List.length z0)&&true
 let z2:aG:=List.take 8 (List.drop 0 z0)
 let z3:aG:=List.take 8 (List.drop 8 z0)
 (.br (decide ((16:Int)<(↑(List.length a0):Int)))
 (.ok ⟨KD,(((),(30:Int),()),())⟩)
 (.br (decide (a1<(1:Int)))
  (.ok ⟨KD,(((),(30:Int),()),())⟩)
  (.br (decide ((64:Int)<a1))
   (.ok ⟨KD,(((),(30:Int),()),())⟩)
   (gd [z1,mA ((z2,()),()),z1,mA ((z3,()),())] (.ok ⟨adY,(((),(0:Int),()),(a1,(7640891576956012808:UInt64)^^^(16842752:UInt64)+i2u a1,(13503953896175478587:UInt64),(4354685564936845355:UInt64),(11912009170470909681:UInt64),(5840696475078001361:UInt64),(11170449401992604703:UInt64),(2270897969802886507:UInt64)^^^Cf z2 (List.length z2),(6620516959819538809:UInt64)^^^Cf z3 (List.length z3),(),(0:UInt64),()),[],())⟩)))))
theorem atX (pre:atY->Bool) (F:atY->OT KE.Y) (hF:∀ (x:atY) oy,pre x=true->(F x).run=some oy->(N9 x.1.1 x.1.2.1).run=some oy):aa ag 108 (KE.aw pre F):=
 cC OU 108 Tryz.f108 KE [KD,adY] bw (λx=>N9 x.1.1 x.1.2.1) hF
def aa4 (p:aG):aG:=p.take 16++(List.replicate 16 (0:UInt8)).drop p.length
def oI (p:aG) (n:Int):Bool:=decide (16<(p.length:Int))||decide (n<1)||decide (64<n)
theorem U5 {p:List UInt8} (h:p.length<=16):(aa4 p).length=16:=by
 simp only [aa4,bR,fI,gD,nI]
 omega
abbrev aId:Type:=Ol
def anJ (n:Int) (h:ao) (c:UInt64):aId:=(n,h.getD 0 0,h.getD 1 0,h.getD 2 0,h.getD 3 0,h.getD 4 0,h.getD 5 0,h.getD 6 0,h.getD 7 0,(),c,())
def avN (p:aG) (n:Int):ao:= [0x6a09e667f3bcc908^^^(16842752+i2u n),0xbb67ae8584caa73b,0x3c6ef372fe94f82b,0xa54ff53a5f1d36f1,0x510e527fade682d1,0x9b05688c2b3e6c1f,
 0x1f83d9abfb41bd6b^^^Cf ((aa4 p).take 8) 8,0x5be0cd19137e2179^^^Cf (((aa4 p).drop 8).take 8) 8]
def ah1 (_:atY):Bool:=true
def Oa (x:atY):OT KE.Y:=.br (oI x.1.1 x.1.2.1) (.ok ⟨KD,(((),(30:Int),()),())⟩)
 (.ok ⟨adY,(((),(0:Int),()),anJ x.1.2.1 (avN x.1.1 x.1.2.1) 0,[],())⟩)
theorem aEY:aa ag 108 (KE.aw ah1 Oa):=atX _ _ λx oy _ ho=>by
 rw [<-ho]
 obtain ⟨⟨p,n,⟨⟩⟩,⟨⟩⟩:=x
 clear ho
 by_cases h1:16<(p.length:Int)
 ·have e1:decide (16<(p.length:Int))=true:=aj h1
  have eb:oI p n=true:=by simp only [oI,e1,Bool.true_or]
  simp only [Oa,N9,e1,eb]
  rfl
 ·have e1:decide (16<(p.length:Int))=false:=bn h1
  by_cases h2:n<1
  ·have e2:decide (n<1)=true:=aj h2
   have eb:oI p n=true:=by simp only [oI,e1,e2,Bool.true_or,Bool.false_or]
   simp only [Oa,N9,e1,e2,eb]
   rfl
  ·have e2:decide (n<1)=false:=bn h2
   by_cases h3:64<n
   ·have e3:decide (64<n)=true:=aj h3
    have eb:oI p n=true:=by simp only [oI,e1,e2,e3,Bool.false_or]
    simp only [Oa,N9,e1,e2,e3,eb]
    rfl
   ·have e3:decide (64<n)=false:=bn h3
    have eb:oI p n=false:=by simp only [oI,e1,e2,e3,Bool.false_or]
    have hl:=U5 (p:=p) (by omega)
    have hp:p.take 16++List.drop p.length [(0:UInt8),0,0,0,0,0,0,0,0,0,0,0,0,0,0,0]=aa4 p:=rfl
    have l1:((aa4 p).take 8).length=8:=by simp only [fI,hl];omega
    have l2:(((aa4 p).drop 8).take 8).length=8:=by simp only [fI,gD,hl];omega
    simp only [Oa,N9,e1,e2,e3,eb,hp,List.drop_zero,l1,l2]
    refine (ae ?_).trans rfl
    simp only [mA,hl,l1,l2]
    decide
def KC:bi:=(KE.aw ah1 Oa)
theorem ant:aa ag 108 KC:=aEY
theorem ans:au KC:=aq
def aCd:Env:=ap 108 KC ajv
theorem SH:bI ag te aCd:=aP follows OU ant ans
def aHW (w:Sh):CSh:=.cells [.val false .int,.val false .u64,.val false .u64,.val false .u64,.val false .u64,.val false .u64,.val false .u64,.val false .u64,.val false .u64,w,.val false .u64]
def qQ:af:=⟨[dW,iE],[(0,aHW mL),nD],true,1,true⟩
def XE:Shape:=⟨61,[zw],[(0,aHW iE),(1,.gone)],2,true⟩
def qP:Shape:=XE
abbrev Ks:Type:=(Unit×df)×Ol×df
abbrev fa:Type:=bQ×auK×bQ
abbrev tR:Type:=bQ×auK×bQ
def atI (c0_0:Int) (c0_1:UInt64) (c0_2:UInt64) (c0_3:UInt64) (c0_4:UInt64) (c0_5:UInt64) (c0_6:UInt64) (c0_7:UInt64) (c0_8:UInt64) (c0_9:aG) (c0_10:UInt64):OT (Sum fa aT):=
 let z0:Nat:=List.length c0_9
 let z1:Int:=(↑z0:Int)
 let z2:aG:=List.drop 0 (List.take 128 c0_9)
 let z3:Nat:=List.length z2
 let z4:ao:=D2 [c0_1,c0_2,c0_3,c0_4,c0_5,c0_6,c0_7,c0_8] (tab z2 128 (0:UInt8)) (c0_10+(128:UInt64)) false
 (.br (decide ((128:Int)<z1))
 (gd [cj (0:Int) (128:Int) z0,decide (128<=z3),decide (128<=z3),cj (128:Int) z1 z0] (.ok (.inl (((),()),(c0_0,List.getD z4 0 0,List.getD z4 1 0,List.getD z4 2 0,List.getD z4 3 0,List.getD z4 4 0,List.getD z4 5 0,List.getD z4 6 0,List.getD z4 7 0,List.drop 128 c0_9,c0_10+(128:UInt64),()),(),()))))
 (.ok (.inr ⟨(.exit 0,qP),(((),()),(c0_0,c0_1,c0_2,c0_3,c0_4,c0_5,c0_6,c0_7,c0_8,c0_9,c0_10,()),(),())⟩)))
def BF (s:fa):OT (Sum fa aT):=atI s.2.1.1 s.2.1.2.1 s.2.1.2.2.1 s.2.1.2.2.2.1 s.2.1.2.2.2.2.1 s.2.1.2.2.2.2.2.1 s.2.1.2.2.2.2.2.2.1 s.2.1.2.2.2.2.2.2.2.1 s.2.1.2.2.2.2.2.2.2.2.1 s.2.1.2.2.2.2.2.2.2.2.2.1 s.2.1.2.2.2.2.2.2.2.2.2.2.1
def XH (g0_0:fa->tR) (s:fa):OT aT:=(.ok ⟨(.exit 0,qP),g0_0 s⟩)
def Kr:aH:=⟨[],[Yx,nD],false⟩
section
variable (ok0:fa->Bool) (g0_0:fa->tR)
def ahN (a1:aG) (c0_0:Int) (c0_1:UInt64) (c0_2:UInt64) (c0_3:UInt64) (c0_4:UInt64) (c0_5:UInt64) (c0_6:UInt64) (c0_7:UInt64) (c0_8:UInt64) (c0_10:UInt64) (c1:aG):OT qQ.Y:=
 let z0:fa:=(((),()),(c0_0,c0_1,c0_2,c0_3,c0_4,c0_5,c0_6,c0_7,c0_8,c1++a1,c0_10,()),(),())
 let z1:=(g0_0 z0).snd.fst
 let z2:=z1.snd
 let z3:=z2.snd
 let z4:=z3.snd
 let z5:=z4.snd
 let z6:=z5.snd
 let z7:=z6.snd
 let z8:=z7.snd
 let z9:=z8.snd
 let z10:=z9.snd
 let z11:=z10.fst
 (gd [decide ((List.length c1+List.length a1)*1<=140737488355328),ok0 z0,fe ((z11,()),())] (.ok ⟨Kr,((),(z1.fst,z2.fst,z3.fst,z4.fst,z5.fst,z6.fst,z7.fst,z8.fst,z9.fst,(),z10.snd.fst,()),z11,())⟩))
theorem adJ (h0:aY BF ok0 (XH g0_0)) (pre:Ks->Bool) (F:Ks->OT qQ.Y) (hF:∀ (x:Ks) oy,pre x=true->(F x).run=some oy->(ahN ok0 g0_0 x.1.2.1 x.2.1.1 x.2.1.2.1 x.2.1.2.2.1 x.2.1.2.2.2.1 x.2.1.2.2.2.2.1 x.2.1.2.2.2.2.2.1 x.2.1.2.2.2.2.2.2.1 x.2.1.2.2.2.2.2.2.2.1 x.2.1.2.2.2.2.2.2.2.2.1 x.2.1.2.2.2.2.2.2.2.2.2.2.1 x.2.2.1).run=some oy):aa ag 161 (qQ.aw pre F):=
 cC SH 161 Tryz.f161 qQ [Kr] (js SH 0 XE [(0,qP)] none none BF bw h0 bw) (λx=>ahN ok0 g0_0 x.1.2.1 x.2.1.1 x.2.1.2.1 x.2.1.2.2.1 x.2.1.2.2.2.1 x.2.1.2.2.2.2.1 x.2.1.2.2.2.2.2.1 x.2.1.2.2.2.2.2.2.1 x.2.1.2.2.2.2.2.2.2.1 x.2.1.2.2.2.2.2.2.2.2.1 x.2.1.2.2.2.2.2.2.2.2.2.2.1 x.2.2.1) hF
end
def aA2 (s:kT):kT:=(D2 s.1 (s.2.2.take 128) (s.2.1+128) false,s.2.1+128,s.2.2.drop 128)
def NQ (s:kT):kT:=upto (λ_ s=>aA2 s) s ((s.2.2.length-1)/128)
abbrev aGZ:Type:=auK
def aEx (n:Int) (s:kT):aGZ:=(n,s.1.getD 0 0,s.1.getD 1 0,s.1.getD 2 0,s.1.getD 3 0,s.1.getD 4 0,s.1.getD 5 0,s.1.getD 6 0,s.1.getD 7 0,s.2.2,s.2.1,())
def aFY (x:aGZ):kT:=([x.2.1,x.2.2.1,x.2.2.2.1,x.2.2.2.2.1,x.2.2.2.2.2.1,x.2.2.2.2.2.2.1,x.2.2.2.2.2.2.2.1,x.2.2.2.2.2.2.2.2.1],x.2.2.2.2.2.2.2.2.2.2.1,x.2.2.2.2.2.2.2.2.2.1)
theorem tK {h:List UInt64} {b:List UInt8} {c:UInt64} {l:Bool} (hh:h.length=8):(D2 h b c l).length=8:=by unfold D2;rw [AU];exact hh
def N5 (_:fa):Bool:=true
def XG (s:fa):tR:=(((),()),aEx s.2.1.1 (NQ (aFY s.2.1)),(),())
theorem atH:aY BF N5 (XH XG):=by
 rintro ⟨⟨⟨⟩,⟨⟩⟩,⟨⟨n,h0,h1,h2,h3,h4,h5,h6,h7,w,c,⟨⟩⟩,⟨⟩,⟨⟩⟩⟩ _
 have:=(aW (T:=BF) (λ_ s=>((((),()),aEx n s,(),()):fa)) (λ_ s=>aA2 s) (λs=>(⟨(.exit 0,qP),(((),()),aEx n s,(),())⟩:aT)) ((w.length-1)/128) ([h0,h1,h2,h3,h4,h5,h6,h7],c,w)
  (λk s=>s.1.length=8/\s.2.2.length+128*k=w.length) ⟨rfl,by simp⟩ (λk s hk hs=>⟨?_,?_⟩) (λs hs=> ?_)).1
 ·obtain ⟨m,hm⟩:=this
  exact ⟨m,_,hm,rfl⟩
 ·obtain ⟨h,c,v⟩:=s
  obtain ⟨a1,a2⟩:=hs
  dsimp only at a1 a2
  have hv:128<v.length:=by omega
  have t1: [h.getD 0 0,h.getD 1 0,h.getD 2 0,h.getD 3 0,h.getD 4 0,h.getD 5 0,h.getD 6 0,h.getD 7 0]=h:=(rfl:_=tab h 8 0).trans (Ab a1)
  have t2:tab (v.take 128) 128 0=v.take 128:=Ab (by simp;omega)
  have t3:(v.take 128).length=128:=by simp;omega
  refine (OT.ak (aj (by dsimp only [aEx];omega))).trans ((ae ?_).trans ?_)
  ·simp only [aEx,List.drop_zero,t3,ax,aA,aC,av]
   exact ⟨cA (by omega),rfl,rfl,cA (by omega)⟩
  ·simp only [OT.gb,aEx,List.drop_zero,t1,t2]
   rfl
 ·obtain ⟨h,c,v⟩:=s
  obtain ⟨a1,a2⟩:=hs
  dsimp only at a1 a2
  refine ⟨tK a1,?_⟩
  simp only [aA2,gD]
  omega
 ·obtain ⟨h,c,v⟩:=s
  obtain ⟨a1,a2⟩:=hs
  dsimp only at a1 a2
  exact OT.al (bn (by dsimp only [aEx];omega))
def AH (x:aId) (w:aG):kT:=([x.2.1,x.2.2.1,x.2.2.2.1,x.2.2.2.2.1,x.2.2.2.2.2.1,x.2.2.2.2.2.2.1,x.2.2.2.2.2.2.2.1,x.2.2.2.2.2.2.2.2.1],x.2.2.2.2.2.2.2.2.2.2.1,w)
def wi (s:kT) (b:aG):kT:=NQ (s.1,s.2.1,s.2.2++b)
theorem ahs (s:kT):∀ k,(upto (λ_ s=>aA2 s) s k).2.2.length<=s.2.2.length
 |0=>Nat.le_refl _
 |k+1=>by
  have:=ahs s k
  show (List.drop 128 (upto (λ_ s=>aA2 s) s k).2.2).length<=_
  rw [gD]
  omega
theorem MY {n:Int} {h:List UInt64} {c:UInt64} {w:List UInt8} (hh:h.length=8):AH (anJ n h c) w=(h,c,w):=by
 have: [h.getD 0 0,h.getD 1 0,h.getD 2 0,h.getD 3 0,h.getD 4 0,h.getD 5 0,h.getD 6 0,h.getD 7 0]=h:=(rfl:_=tab h 8 0).trans (Ab hh)
 simp only [AH,anJ,this]
theorem aGt (s:kT) (hs:s.1.length=8):∀ k,(upto (λ_ s=>aA2 s) s k).1.length=8
 |0=>hs
 |k+1=>tK (aGt s hs k)
theorem asW (s:kT):∀ k,(upto (λ_ s=>aA2 s) s k).2.2.length=s.2.2.length-128*k
 |0=>rfl
 |k+1=>by
  have:=asW s k
  show (List.drop 128 (upto (λ_ s=>aA2 s) s k).2.2).length=_
  rw [gD,this]
  omega
theorem ay0 (s:kT) (hs:s.1.length=8):(NQ s).1.length=8:=aGt s hs _
theorem amR (s:kT):(NQ s).2.2.length<=128:=by
 unfold NQ
 rw [asW]
 omega
def D7 (x:Ks):Bool:=decide (x.2.2.1.length+x.1.2.1.length<=140737488355328)
def ahO (x:Ks):OT qQ.Y:=.ok ⟨Kr,((),anJ x.2.1.1 (wi (AH x.2.1 x.2.2.1) x.1.2.1).1 (wi (AH x.2.1 x.2.2.1) x.1.2.1).2.1,(wi (AH x.2.1 x.2.2.1) x.1.2.1).2.2,())⟩
theorem atG:aa ag 161 (qQ.aw D7 ahO):=adJ N5 XG atH _ _ λx oy hp ho=>by
 rw [<-ho]
 clear ho
 obtain ⟨⟨⟨⟩,b,⟨⟩⟩,⟨⟨n,h0,h1,h2,h3,h4,h5,h6,h7,⟨⟩,c,⟨⟩⟩,w,⟨⟩⟩⟩:=x
 have hp':=bh hp
 dsimp only at hp'
 refine (ae ?_).trans rfl
 simp only [ax,aA,aC,av]
 refine ⟨aj (by omega),rfl,aj ?_⟩
 have:=ahs ([h0,h1,h2,h3,h4,h5,h6,h7],c,w++b) (((w++b).length-1)/128)
 show (NQ ([h0,h1,h2,h3,h4,h5,h6,h7],c,w++b)).2.2.length<=_
 refine gC this ?_
 show (w++b).length<=_
 rw [bR]
 exact hp'
def yZ:bi:=(qQ.aw D7 ahO)
theorem XF:aa ag 161 yZ:=atG
theorem XD:au yZ:=aq
def ajl:Env:=ap 161 yZ aCd
theorem Ev:bI ag te ajl:=aP follows SH XF XD
def Kv:af:=⟨oQ,[(0,aHW mL),nD],false,2,true⟩
abbrev atO:Type:=bQ×Ol×df
def aET:Shape:=⟨51,[uh,(6,.own 3),(33,aB),(34,aB)],[Yx,nD,kW,(3,jA)],2,true⟩
abbrev jq:Type:=rv×Ol×aG×ao×df
def BH:Shape:=⟨51,[(6,.own 2)],[Yx,nD,zp],2,true⟩
abbrev Ea:Type:=bQ×Ol×aG×df
def aEW (a33:Int) (a34:Int) (c0_0:Int) (c0_1:UInt64) (c0_2:UInt64) (c0_3:UInt64) (c0_4:UInt64) (c0_5:UInt64) (c0_6:UInt64) (c0_7:UInt64) (c0_8:UInt64) (c0_10:UInt64) (c1:aG) (c2:ao) (c3:aG):OT (Sum jq aT):=
 let z0:Int:=Int.tdiv a34 (8:Int)
 let z1:Int:=(8:Int)*Int.tmod a34 (8:Int)
 let z2:Nat:=List.length c3
 let z3:Nat:=Int.toNat a34
 (.br (decide (a34<a33))
 (gd [true&&inR z0,inB z0 8,decide (Int.toNat z0+0<List.length c2),inR z1,decide ((0:Int)<=z1),inB a34 z2,decide (z3<z2),inR (a34+(1:Int))] (.ok (.inl (((),(),a33,a34+(1:Int),()),(c0_0,c0_1,c0_2,c0_3,c0_4,c0_5,c0_6,c0_7,c0_8,(),c0_10,()),c1,c2,List.set c3 z3 (UInt64.toUInt8 (bA (List.getD c2 (Int.toNat z0+0) (0:UInt64)) z1)),()))))
 (.ok (.inr ⟨(.exit 0,BH),(((),()),(c0_0,c0_1,c0_2,c0_3,c0_4,c0_5,c0_6,c0_7,c0_8,(),c0_10,()),c1,c3,())⟩)))
def R5 (s:jq):OT (Sum jq aT):=aEW s.1.2.2.1 s.1.2.2.2.1 s.2.1.1 s.2.1.2.1 s.2.1.2.2.1 s.2.1.2.2.2.1 s.2.1.2.2.2.2.1 s.2.1.2.2.2.2.2.1 s.2.1.2.2.2.2.2.2.1 s.2.1.2.2.2.2.2.2.2.1 s.2.1.2.2.2.2.2.2.2.2.1 s.2.1.2.2.2.2.2.2.2.2.2.2.1 s.2.2.1 s.2.2.2.1 s.2.2.2.2.1
def atN (g0_0:jq->Ea) (s:jq):OT aT:=(.ok ⟨(.exit 0,BH),g0_0 s⟩)
def adU:aH:=⟨[.own 2],[Yx,nD,zp],false⟩
section
variable (ok0:jq->Bool) (g0_0:jq->Ea)
def aBe (c0_0:Int) (c0_1:UInt64) (c0_2:UInt64) (c0_3:UInt64) (c0_4:UInt64) (c0_5:UInt64) (c0_6:UInt64) (c0_7:UInt64) (c0_8:UInt64) (c0_10:UInt64) (c1:aG):OT Kv.Y:=
 let z0:Nat:=List.length c1
 let z1:aG:=List.take 128 c1++List.drop z0 (List.replicate 128 (0:UInt8))
 let z2:aG:=List.replicate (Int.toNat c0_0) (0:UInt8)
 let z3:ao:=D2 [c0_1,c0_2,c0_3,c0_4,c0_5,c0_6,c0_7,c0_8] (tab z1 128 (0:UInt8)) (c0_10+i2u (↑(min z0 128):Int)) true
 let z4:jq:=(((),(),(↑(List.length z2):Int),(0:Int),()),(c0_0,c0_1,c0_2,c0_3,c0_4,c0_5,c0_6,c0_7,c0_8,(),c0_10,()),c1,[List.getD z3 0 0,List.getD z3 1 0,List.getD z3 2 0,List.getD z3 3 0,List.getD z3 4 0,List.getD z3 5 0,List.getD z3 6 0,List.getD z3 7 0],z2,())
 let z5:=(g0_0 z4).snd
 let z6:=z5.fst
 let z7:=z6.snd
 let z8:=z7.snd
 let z9:=z8.snd
 let z10:=z9.snd
 let z11:=z10.snd
 let z12:=z11.snd
 let z13:=z12.snd
 let z14:=z13.snd
 let z15:=z5.snd
 (gd [decide (128<=List.length z1),decide ((0:Int)<=c0_0)&&decide (c0_0<=c0_0)&&decide (c0_0*(1:Int)<=(140737488355328:Int))&&decide (c0_0<=(140737488355328:Int)),ok0 z4] (.ok ⟨adU,(((),()),(z6.fst,z7.fst,z8.fst,z9.fst,z10.fst,z11.fst,z12.fst,z13.fst,z14.fst,(),z14.snd.snd.fst,()),z15.fst,z15.snd.fst,())⟩))
theorem atM (h0:aY R5 ok0 (atN g0_0)) (pre:atO->Bool) (F:atO->OT Kv.Y) (hF:∀ (x:atO) oy,pre x=true->(F x).run=some oy->(aBe ok0 g0_0 x.2.1.1 x.2.1.2.1 x.2.1.2.2.1 x.2.1.2.2.2.1 x.2.1.2.2.2.2.1 x.2.1.2.2.2.2.2.1 x.2.1.2.2.2.2.2.2.1 x.2.1.2.2.2.2.2.2.2.1 x.2.1.2.2.2.2.2.2.2.2.1 x.2.1.2.2.2.2.2.2.2.2.2.2.1 x.2.2.1).run=some oy):aa ag 162 (Kv.aw pre F):=
 cC Ev 162 Tryz.f162 Kv [adU] (js Ev 0 aET [(0,BH)] none none R5 bw h0 bw) (λx=>aBe ok0 g0_0 x.2.1.1 x.2.1.2.1 x.2.1.2.2.1 x.2.1.2.2.2.1 x.2.1.2.2.2.2.1 x.2.1.2.2.2.2.2.1 x.2.1.2.2.2.2.2.2.1 x.2.1.2.2.2.2.2.2.2.1 x.2.1.2.2.2.2.2.2.2.2.1 x.2.1.2.2.2.2.2.2.2.2.2.2.1 x.2.2.1) hF
end
def afK (h:ao) (n:Nat):aG:=upto (λk o=>o.set k (UInt64.toUInt8 (bA (h.getD (k/8) 0) (8*((k%8:Nat):Int))))) (List.replicate n 0) n
def R4 (s:jq):Bool:=decide (s.1.2.2.2.1=0/\s.2.2.2.1.length=8/\s.1.2.2.1<=64/\0<=s.1.2.2.1/\s.2.2.2.2.1=List.replicate s.1.2.2.1.toNat 0)
def adV (s:jq):Ea:=(((),()),s.2.1,s.2.2.1,afK s.2.2.2.1 s.1.2.2.1.toNat,())
theorem aEV:aY R5 R4 (atN adV):=by
 rintro ⟨⟨⟨⟩,⟨⟩,n,i,⟨⟩⟩,⟨d,w,h,o,⟨⟩⟩⟩ hh
 have h':=bh hh
 dsimp only at h'
 obtain ⟨rfl,hl,hn,hn0,rfl⟩:=h'
 obtain ⟨k,rfl⟩:∃ k:Nat,n=(k:Int):=⟨n.toNat,by omega⟩
 have:=(aW (T:=R5) (λi o=>((((),(),(k:Int),(i:Int),()),d,w,h,o,()):jq)) (λk o=>o.set k (UInt64.toUInt8 (bA (h.getD (k/8) 0) (8*((k%8:Nat):Int)))))
  (λo=>(⟨(.exit 0,BH),(((),()),d,w,o,())⟩:aT)) k (List.replicate k 0) (λ_ o=>o.length=k) (by simp) (λi o hi ho=>⟨?_,by rw [dm];exact ho⟩) (λo ho=> ?_)).1
 ·obtain ⟨m,hm⟩:=this
  exact ⟨m,_,hm,rfl⟩
 ·have t1:Int.tdiv (i:Int) 8=((i/8:Nat):Int):=by rw [Int.tdiv_eq_ediv_of_nonneg (by omega)];omega
  have t2:Int.tmod (i:Int) 8=((i%8:Nat):Int):=by rw [Int.tmod_eq_emod_of_nonneg (by omega)];omega
  refine (OT.ak (aj (by dsimp only;omega))).trans ((ae ?_).trans ?_)
  ·simp only [t1,t2,hl,ho,bH,ax,aA,aC,av]
   exact ⟨⟨trivial,aL (by omega)⟩,aR (by omega),aj (by omega),aL (by omega),aj (by omega),aR (by omega),aj (by omega),aL (by omega)⟩
  ·simp only [OT.gb,t1,t2,bH,Nat.add_zero]
   rfl
 ·exact OT.al (bn (by dsimp only;omega))
def AD (w:aG):aG:=w.take 128++(List.replicate 128 (0:UInt8)).drop w.length
theorem AC {w:List UInt8} (h:w.length<=128):(AD w).length=128:=by
 simp only [AD,bR,fI,gD,nI]
 omega
def aG4 (n:Int) (s:kT):aG:=afK (D2 s.1 (AD s.2.2) (s.2.1+i2u (s.2.2.length:Int)) true) n.toNat
theorem adT {n:Int} {d:aId} {w:List UInt8} {h:List UInt64} (hh:h.length=8) (hn0:0<=n) (hn:n<=64):R4 (((),(),n,0,()),d,w,h,List.replicate n.toNat 0,())=true:=aj ⟨rfl,hh,hn,hn0,rfl⟩
def Sc (p:aG) (n:Int) (b:aG):aG:=aG4 n (wi (avN p n,0,[]) b)
def R0 (x:atO):Bool:=decide (0<=x.2.1.1/\x.2.1.1<=64/\x.2.2.1.length<=128)
def aBf (x:atO):OT Kv.Y:=.ok ⟨adU,(((),()),x.2.1,x.2.2.1,aG4 x.2.1.1 (AH x.2.1 x.2.2.1),())⟩
theorem aEU:aa ag 162 (Kv.aw R0 aBf):=atM R4 adV aEV _ _ λx oy hp ho=>by
 rw [<-ho]
 clear ho
 obtain ⟨⟨⟨⟩,⟨⟩⟩,⟨⟨n,h0,h1,h2,h3,h4,h5,h6,h7,⟨⟩,c,⟨⟩⟩,w,⟨⟩⟩⟩:=x
 have hp':=bh hp
 dsimp only at hp'
 obtain ⟨hn0,hn,hw⟩:=hp'
 have t1:w.take 128++List.drop w.length (List.replicate 128 (0:UInt8))=AD w:=rfl
 have t2:tab (AD w) 128 0=AD w:=Ab (AC hw)
 have t3:min w.length 128=w.length:=by omega
 have hc:∀ c,(D2 [h0,h1,h2,h3,h4,h5,h6,h7] (AD w) c true).length=8:=λc=>tK rfl
 have t4:∀ c,tab (D2 [h0,h1,h2,h3,h4,h5,h6,h7] (AD w) c true) 8 0=D2 [h0,h1,h2,h3,h4,h5,h6,h7] (AD w) c true:=λc=>Ab (hc c)
 have t5:((List.replicate n.toNat (0:UInt8)).length:Int)=n:=by simp;omega
 refine (ae ?_).trans ?_
 ·simp only [t1,t2,t3,t4,t5,AC hw,ax,aA,aC,av]
  exact ⟨rfl,⟨⟨⟨aj hn0,aj (Int.le_refl _)⟩,aj (by omega)⟩,aj (by omega)⟩,adT (hc _) hn0 hn⟩
 ·simp only [t1,t2,t3,t4,t5,adV]
  rfl
def Ku:bi:=(Kv.aw R0 aBf)
theorem ano:aa ag 162 Ku:=aEU
theorem ann:au Ku:=aq
def aCb:Env:=ap 162 Ku ajl
theorem ajm:bI ag te aCb:=aP follows Ev ano ann
def tS:af:=⟨[Yr,aB,iE],[],true,0,false⟩
abbrev XL:Type:=(aG×Int×df)×Unit
def vK:aH:=⟨[.own 0,aB],zA,false⟩
def atL (a0:aG) (a1:Int) (a2:aG):OT tS.Y:=
 let z0:aiq:=anJ a1 (avN a0 a1) (0:UInt64)
 let z1:=z0.fst
 let z2:=z0.snd
 let z3:=z2.snd
 let z4:=z3.snd
 let z5:=z4.snd
 let z6:=z5.snd
 let z7:=z6.snd
 let z8:=z7.snd
 let z9:=z8.snd
 let z10:aiq:=(z1,z2.fst,z3.fst,z4.fst,z5.fst,z6.fst,z7.fst,z8.fst,z9.fst,(),z9.snd.snd.fst,())
 let z11:kT:=wi (AH z10 []) a2
 let z12:=z11.snd
 let z13:aiq:=anJ z1 z11.fst z12.fst
 let z14:=z13.fst
 let z15:=z13.snd
 let z16:=z15.snd
 let z17:=z16.snd
 let z18:=z17.snd
 let z19:=z18.snd
 let z20:=z19.snd
 let z21:=z20.snd
 let z22:=z21.snd
 let z23:aiq:=(z14,z15.fst,z16.fst,z17.fst,z18.fst,z19.fst,z20.fst,z21.fst,z22.fst,(),z22.snd.snd.fst,())
 let z24:=z12.snd
 (.br (oI a0 a1)
 (.ok ⟨vK,(((),(30:Int),()),[],())⟩)
 (gd [D7 (((),a2,()),z10,[],()),R0 (((),()),z23,z24,())] (.ok ⟨vK,(((),(0:Int),()),aG4 z14 (AH z23 z24),())⟩)))
theorem anm (pre:XL->Bool) (F:XL->OT tS.Y) (hF:∀ (x:XL) oy,pre x=true->(F x).run=some oy->(atL x.1.1 x.1.2.1 x.1.2.2.1).run=some oy):aa ag 132 (tS.aw pre F):=
 cC ajm 132 Tryz.f132 tS [vK] bw (λx=>atL x.1.1 x.1.2.1 x.1.2.2.1) hF
def BG (x:XL):Bool:=decide (x.1.2.2.1.length<=140737488355328)
def RZ (x:XL):OT tS.Y:=.br (oI x.1.1 x.1.2.1) (.ok ⟨vK,(((),(30:Int),()),[],())⟩) (.ok ⟨vK,(((),(0:Int),()),Sc x.1.1 x.1.2.1 x.1.2.2.1,())⟩)
theorem azm:aa ag 132 (tS.aw BG RZ):=anm _ _ λx oy hp ho=>by
 rw [<-ho]
 clear ho
 obtain ⟨⟨p,n,b,⟨⟩⟩,⟨⟩⟩:=x
 have hp':=bh hp
 dsimp only at hp'
 cases hk:oI p n
 ·refine (OT.al hk).trans ?_
  have e1:AH (anJ n (avN p n) 0) []=(avN p n,0,[]):=MY rfl
  have e2:∀ c w,AH (anJ n (wi (avN p n,0,[]) b).1 c) w=((wi (avN p n,0,[]) b).1,c,w):=λc w=>MY (ay0 _ rfl)
  have hn:0<=n/\n<=64:=by
   simp only [oI,Bool.or_eq_false_iff,decide_eq_false_iff_not] at hk
   omega
  refine (ae ?_).trans ?_
  ·simp only [ax,aA,aC,av]
   refine ⟨aj (by simp only [List.length_nil];omega),aj ⟨hn.1,hn.2,?_⟩⟩
   exact amR _
  ·have key:aG4 n (AH (anJ n (wi (AH (anJ n (avN p n) 0) []) b).1 (wi (AH (anJ n (avN p n) 0) []) b).2.1) (wi (AH (anJ n (avN p n) 0) []) b).2.2)=Sc p n b:=by
    rw [e1,e2]
    rfl
   simp only [RZ,hk]
   exact congrArg (λl=>some (⟨vK,(((),(0:Int),()),l,())⟩:tS.Y)) key
 ·refine (OT.ak hk).trans ?_
  simp only [RZ,hk]
  rfl
def D9:bi:=(tS.aw BG RZ)
theorem adR:aa ag 132 D9:=azm
theorem adQ:au D9:=aq
def avI:Env:=ap 132 D9 aCb
theorem avH:bI ag te avI:=aP follows ajm adR adQ
def Sx.ab.nat (e:ab):Nat:=e.w0.toNat+18446744073709551616*(e.w1.toNat+18446744073709551616*(e.w2.toNat+18446744073709551616*e.w3.toNat))
def ofN (n:Nat):ab:=⟨UInt64.ofNat n,UInt64.ofNat (n/18446744073709551616),UInt64.ofNat (n/18446744073709551616/18446744073709551616),UInt64.ofNat (n/18446744073709551616/18446744073709551616/18446744073709551616)⟩
def zn (x y c:UInt64):UInt64:=UInt64.ofNat ((x.toNat+y.toNat+c.toNat)%18446744073709551616)
def FL (x y c:UInt64):UInt64:=UInt64.ofNat ((x.toNat+y.toNat+c.toNat)/18446744073709551616)
def pj (x y c:UInt64):UInt64:=UInt64.ofNat ((x.toNat+18446744073709551616-y.toNat-c.toNat)%18446744073709551616)
def SK (x y c:UInt64):UInt64:=UInt64.ofNat (if x.toNat<y.toNat+c.toNat then 1 else 0)
def avO (x y:UInt64):UInt64:=UInt64.ofNat (x.toNat*y.toNat/18446744073709551616)
theorem ga (x:UInt64) (k:Nat) (hk:k<64):(bA x (k:Int)).toNat=x.toNat/2^k:=by
 unfold bA
 rw [if_pos (by omega),UInt64.toNat_shiftRight,dg,bH,Nat.shiftRight_eq_div_pow]
 congr 2
 omega
theorem lY (x:UInt64) (k:Nat) (hk:k<64):(cn x (k:Int)).toNat=x.toNat*2^k%2^64:=by
 unfold cn
 rw [if_pos (by omega),UInt64.toNat_shiftLeft,dg,bH,Nat.shiftLeft_eq]
 congr 3
 omega
theorem jX (x:UInt64):(x&&&4294967295).toNat=x.toNat%4294967296:=by
 rw [UInt64.toNat_and]
 exact Nat.and_two_pow_sub_one_eq_mod x.toNat 32
theorem aF4 (a b:UInt64):bA a 32*bA b 32+bA (bA a 32*(b&&&4294967295)+bA ((a&&&4294967295)*(b&&&4294967295)) 32) 32+
 bA (((bA a 32*(b&&&4294967295)+bA ((a&&&4294967295)*(b&&&4294967295)) 32)&&&4294967295)+(a&&&4294967295)*bA b 32) 32=avO a b:=by
 have ha:=a.toNat_lt
 have hb:=b.toNat_lt
 obtain ⟨h1,h2,h3,h4⟩:=Lib.mul64_hi a.toNat b.toNat ha hb
 have s32:∀ x:UInt64,(bA x 32).toNat=x.toNat/4294967296:=λx=>ga x 32 (by omega)
 have hx:=Lib.half_mul_le (a:=a.toNat/4294967296) (b:=b.toNat/4294967296) (by omega) (by omega)
 have hy:=Lib.half_mul_le (a:=a.toNat/4294967296) (b:=b.toNat%4294967296) (by omega) (by omega)
 have hz:=Lib.half_mul_le (a:=a.toNat%4294967296) (b:=b.toNat/4294967296) (by omega) (by omega)
 have e0:((a&&&4294967295)*(b&&&4294967295)).toNat=a.toNat%4294967296*(b.toNat%4294967296):=by
  rw [UInt64.toNat_mul,jX,jX,bj h1]
 have e1:(bA a 32*(b&&&4294967295)+bA ((a&&&4294967295)*(b&&&4294967295)) 32).toNat=a.toNat/4294967296*(b.toNat%4294967296)+a.toNat%4294967296*(b.toNat%4294967296)/4294967296:=by
  rw [UInt64.toNat_add,UInt64.toNat_mul,s32,s32,jX,e0,bj (a:=a.toNat/4294967296*(b.toNat%4294967296)) (by omega),bj h2]
 have e2:(((bA a 32*(b&&&4294967295)+bA ((a&&&4294967295)*(b&&&4294967295)) 32)&&&4294967295)+(a&&&4294967295)*bA b 32).toNat=
  (a.toNat/4294967296*(b.toNat%4294967296)+a.toNat%4294967296*(b.toNat%4294967296)/4294967296)%4294967296+a.toNat%4294967296*(b.toNat/4294967296):=by
  rw [UInt64.toNat_add,UInt64.toNat_mul,jX,jX,s32,e1,bj (a:=a.toNat%4294967296*(b.toNat/4294967296)) (by omega),bj h3]
 have hq:a.toNat*b.toNat/18446744073709551616<18446744073709551616:=by
  rw [Nat.div_lt_iff_lt_mul (by omega)]
  exact Nat.mul_lt_mul'' ha hb
 rw [<-kE,UInt64.toNat_add,UInt64.toNat_add,UInt64.toNat_mul,s32,s32,s32,s32,e1,e2]
 have e3:(avO a b).toNat=a.toNat*b.toNat/18446744073709551616:=by
  unfold avO
  rw [dg,bj hq]
 rw [e3,<-h4]
 rw [<-h4] at hq
 omega
def aFm (h l y:UInt64):UInt64:=UInt64.ofNat ((h.toNat*18446744073709551616+l.toNat)/y.toNat)
def W8 (h l y:UInt64):UInt64:=UInt64.ofNat ((h.toNat*18446744073709551616+l.toNat)%y.toNat)
theorem ay2 {m A B N:Nat} (hm:0<m) (e:N=A+m*B):N/m=B+A/m/\N%m=A%m:=by
 subst e
 exact ⟨by rw [Nat.add_mul_div_left _ _ hm,Nat.add_comm],Nat.add_mul_mod_self_left ..⟩
theorem RJ {m N u t q r K L:Nat} (hm:0<m) (hL:0<L) (hu:N=u*K+t) (hq:u=q*(m*L)+r):
 N/m=q*(L*K)+((r*K+t)*L)/(m*L)/\N%m=((r*K+t)*L)%(m*L)/L:=by
 have e:N=(r*K+t)+m*(q*(L*K)):=by
  have h1:q*(m*L)*K=m*(q*(L*K)):=by
   rw [Nat.mul_assoc q,Nat.mul_assoc m,Nat.mul_left_comm m q]
  rw [hu,hq,Nat.add_mul,h1]
  omega
 obtain ⟨h1,h2⟩:=ay2 hm e
 rw [h1,h2,Nat.mul_div_mul_right _ _ hL,Nat.mul_mod_mul_right,Nat.mul_div_cancel _ hL]
 exact ⟨rfl,rfl⟩
theorem mF (x y c:UInt64):x.toNat+y.toNat+c.toNat=(zn x y c).toNat+18446744073709551616*(FL x y c).toNat:=by
 have hx:=x.toNat_lt
 have hy:=y.toNat_lt
 have hc:=c.toNat_lt
 unfold zn FL
 rw [dg,dg,bj (b:=2^64) (by omega),bj (b:=2^64) (by omega)]
 omega
theorem K0 {x y c:UInt64} (hc:c.toNat<=1):(FL x y c).toNat<=1:=by
 have hx:=x.toNat_lt
 have hy:=y.toNat_lt
 unfold FL
 rw [dg,bj (by omega)]
 omega
theorem Ad (x y c:UInt64):(SK x y c).toNat=if x.toNat<y.toNat+c.toNat then 1 else 0:=by
 unfold SK
 rw [dg]
 split<;>rfl
theorem CC {x y c:UInt64}:(SK x y c).toNat<=1:=by
 rw [Ad]
 split<;>omega
theorem Ae {x y c:UInt64} (hc:c.toNat<=1):x.toNat+18446744073709551616*(SK x y c).toNat=(pj x y c).toNat+y.toNat+c.toNat:=by
 have hx:=x.toNat_lt
 have hy:=y.toNat_lt
 rw [Ad]
 unfold pj
 rw [dg,bj (b:=2^64) (by omega)]
 split<;>omega
theorem iX (e:ab):e.nat<115792089237316195423570985008687907853269984665640564039457584007913129639936:=by
 have h0:=e.w0.toNat_lt
 have h1:=e.w1.toNat_lt
 have h2:=e.w2.toNat_lt
 have h3:=e.w3.toNat_lt
 unfold Sx.ab.nat
 omega
theorem Ce {a b X Y:Nat} (ha:a<18446744073709551616) (hb:b<18446744073709551616) (h:a+18446744073709551616*X=b+18446744073709551616*Y):a=b/\X=Y:=by
 omega
theorem iY {e f:ab} (h:e.nat=f.nat):e=f:=by
 unfold Sx.ab.nat at h
 obtain ⟨h0,h⟩:=Ce e.w0.toNat_lt f.w0.toNat_lt h
 obtain ⟨h1,h⟩:=Ce e.w1.toNat_lt f.w1.toNat_lt h
 obtain ⟨h2,h3⟩:=Ce e.w2.toNat_lt f.w2.toNat_lt h
 obtain ⟨a,b,c,d⟩:=e
 obtain ⟨a',b',c',d'⟩:=f
 simp only at h0 h1 h2 h3
 rw [UInt64.toNat_inj.1 h0,UInt64.toNat_inj.1 h1,UInt64.toNat_inj.1 h2,UInt64.toNat_inj.1 h3]
theorem div_eq {n a b:Nat} (ha:a<18446744073709551616) (h:n=a+18446744073709551616*b):n/18446744073709551616=b/\n%18446744073709551616=a:=by
 omega
theorem aqf {n:Nat} {a b c d:UInt64} {k:Nat} (h:n=a.toNat+18446744073709551616*(b.toNat+18446744073709551616*(c.toNat+18446744073709551616*(d.toNat+18446744073709551616*k)))):ofN n=⟨a,b,c,d⟩:=by
 obtain ⟨h1,h0⟩:=div_eq a.toNat_lt h
 obtain ⟨h2,h3⟩:=div_eq b.toNat_lt h1
 obtain ⟨h4,h5⟩:=div_eq c.toNat_lt h2
 have h6:n/18446744073709551616/18446744073709551616/18446744073709551616%18446744073709551616=d.toNat:=by
  rw [h4]
  have:=d.toNat_lt
  omega
 unfold ofN
 have e:∀ (m:Nat) (x:UInt64),m%18446744073709551616=x.toNat->UInt64.ofNat m=x:=λm x hm=>by
  rw [<-kE,dg]
  exact hm
 rw [e _ a h0,e _ b h3,e _ c h5,e _ d h6]
theorem Qb (n:Nat):(ofN n).nat=n%115792089237316195423570985008687907853269984665640564039457584007913129639936:=by
 unfold ofN ab.nat
 simp only [dg]
 rw [show (2:Nat)^64=18446744073709551616 from rfl]
 omega
theorem nQ {n:Nat} (h:n<115792089237316195423570985008687907853269984665640564039457584007913129639936):(ofN n).nat=n:=by
 rw [Qb]
 exact bj h
theorem AG (e:ab):ofN e.nat=e:=iY (nQ (iX e))
def SJ (a b:ab):ab×Bool:=(ofN (a.nat+b.nat),Nat.ble 115792089237316195423570985008687907853269984665640564039457584007913129639936 (a.nat+b.nat))
def ka (a b:ab):ab×Bool:=(ofN (a.nat+115792089237316195423570985008687907853269984665640564039457584007913129639936-b.nat),Nat.blt a.nat b.nat)
theorem Sp {x y c s k X Y R:Nat} (h1:x+y+c=s+18446744073709551616*k) (h2:X+Y+k=R):(x+18446744073709551616*X)+(y+18446744073709551616*Y)+c=s+18446744073709551616*R:=by
 omega
theorem Pm {x y c s k X Y R Q:Nat} (h1:x+18446744073709551616*k=s+y+c) (h2:X+18446744073709551616*Q=R+Y+k):(x+18446744073709551616*X)+18446744073709551616*(18446744073709551616*Q)=s+18446744073709551616*R+(y+18446744073709551616*Y)+c:=by
 omega
theorem ajy (a b:ab):let k0:=FL a.w0 b.w0 0;let k1:=FL a.w1 b.w1 k0;let k2:=FL a.w2 b.w2 k1;let k3:=FL a.w3 b.w3 k2
 (k0.toNat<=1/\k1.toNat<=1/\k2.toNat<=1)/\SJ a b=(⟨zn a.w0 b.w0 0,zn a.w1 b.w1 k0,zn a.w2 b.w2 k1,zn a.w3 b.w3 k2⟩,!(k3==0)):=by
 intro k0 k1 k2 k3
 have l0:k0.toNat<=1:=K0 (by decide)
 have l1:k1.toNat<=1:=K0 l0
 have l2:k2.toNat<=1:=K0 l1
 have l3:k3.toNat<=1:=K0 l2
 refine ⟨⟨l0,l1,l2⟩,?_⟩
 have h:=Sp (mF a.w0 b.w0 0) (Sp (mF a.w1 b.w1 k0) (Sp (mF a.w2 b.w2 k1) (mF a.w3 b.w3 k2)))
 rw [show (0:UInt64).toNat=0 from rfl,Nat.add_zero] at h
 unfold SJ
 have hn:a.nat+b.nat=(zn a.w0 b.w0 0).toNat+18446744073709551616*((zn a.w1 b.w1 k0).toNat+18446744073709551616*((zn a.w2 b.w2 k1).toNat+18446744073709551616*((zn a.w3 b.w3 k2).toNat+18446744073709551616*k3.toNat))):=h
 rw [aqf hn]
 congr 1
 have hs:=iX ⟨zn a.w0 b.w0 0,zn a.w1 b.w1 k0,zn a.w2 b.w2 k1,zn a.w3 b.w3 k2⟩
 unfold Sx.ab.nat at hs
 simp only at hs
 have hk:k3.toNat=0\/k3.toNat=1:=by omega
 rcases hk with hk|hk
 ·have e:k3=0:=UInt64.toNat_inj.1 hk
  rw [hk] at hn
  rw [e]
  cases hb:Nat.ble 115792089237316195423570985008687907853269984665640564039457584007913129639936 (a.nat+b.nat)
  ·rfl
  ·have:=Nat.le_of_ble_eq_true hb
   omega
 ·have e:(k3==0)=false:=by
   have:¬k3=0:=λe=>by rw [e] at hk;cases hk
   simpa using this
  rw [hk] at hn
  rw [e]
  exact lb (by omega)
theorem Mm (a b:ab):let k0:=SK a.w0 b.w0 0;let k1:=SK a.w1 b.w1 k0;let k2:=SK a.w2 b.w2 k1;let k3:=SK a.w3 b.w3 k2
 (k0.toNat<=1/\k1.toNat<=1/\k2.toNat<=1)/\ka a b=(⟨pj a.w0 b.w0 0,pj a.w1 b.w1 k0,pj a.w2 b.w2 k1,pj a.w3 b.w3 k2⟩,!(k3==0)):=by
 intro k0 k1 k2 k3
 have l0:k0.toNat<=1:=CC
 have l1:k1.toNat<=1:=CC
 have l2:k2.toNat<=1:=CC
 have l3:k3.toNat<=1:=CC
 refine ⟨⟨l0,l1,l2⟩,?_⟩
 have h:=Pm (Ae (x:=a.w0) (y:=b.w0) (c:=0) (by decide)) (Pm (Ae (x:=a.w1) (y:=b.w1) l0) (Pm (Ae (x:=a.w2) (y:=b.w2) l1) (Ae (x:=a.w3) (y:=b.w3) l2)))
 rw [show (0:UInt64).toNat=0 from rfl,Nat.add_zero] at h
 unfold ka
 have hs:=iX ⟨pj a.w0 b.w0 0,pj a.w1 b.w1 k0,pj a.w2 b.w2 k1,pj a.w3 b.w3 k2⟩
 have h':a.nat+18446744073709551616*(18446744073709551616*(18446744073709551616*(18446744073709551616*k3.toNat)))=ab.nat ⟨pj a.w0 b.w0 0,pj a.w1 b.w1 k0,pj a.w2 b.w2 k1,pj a.w3 b.w3 k2⟩+b.nat:=h
 have ha:=iX a
 have hb:=iX b
 have hS:=iX ⟨pj a.w0 b.w0 0,pj a.w1 b.w1 k0,pj a.w2 b.w2 k1,pj a.w3 b.w3 k2⟩
 have e1:ofN (a.nat+115792089237316195423570985008687907853269984665640564039457584007913129639936-b.nat)=⟨pj a.w0 b.w0 0,pj a.w1 b.w1 k0,pj a.w2 b.w2 k1,pj a.w3 b.w3 k2⟩:=by
  apply iY
  rw [Qb]
  generalize ab.nat ⟨pj a.w0 b.w0 0,pj a.w1 b.w1 k0,pj a.w2 b.w2 k1,pj a.w3 b.w3 k2⟩=S at*
  omega
 rw [e1]
 congr 1
 generalize ab.nat ⟨pj a.w0 b.w0 0,pj a.w1 b.w1 k0,pj a.w2 b.w2 k1,pj a.w3 b.w3 k2⟩=S at*
 have hk:k3.toNat=0\/k3.toNat=1:=by omega
 rcases hk with hk|hk
 ·have e:k3=0:=UInt64.toNat_inj.1 hk
  rw [hk] at h'
  rw [e]
  cases hq:Nat.blt a.nat b.nat
  ·rfl
  ·have:=db hq
   omega
 ·have e:(k3==0)=false:=by
   have:¬k3=0:=λe=>by rw [e] at hk;cases hk
   simpa using this
  rw [hk] at h'
  rw [e]
  exact lb (show a.nat+1<=b.nat by omega)
def lst (e:ab):List UInt64:= [e.w0,e.w1,e.w2,e.w3]
def elemOf (l:List UInt64):ab:=⟨l.getD 0 0,l.getD 1 0,l.getD 2 0,l.getD 3 0⟩
theorem bY {l:List UInt64} (h:l.length=4):lst (elemOf l)=l:=by
 match l,h with
 | [a,b,c,d],_=>rfl
theorem amQ (e:ab):elemOf (lst e)=e:=rfl
theorem oc (e:ab):(lst e).length=4:=rfl
theorem qF {h l y:UInt64} (hy:0<y.toNat):(W8 h l y).toNat=(h.toNat*18446744073709551616+l.toNat)%y.toNat:=by
 unfold W8
 rw [dg]
 exact bj (Nat.lt_trans (Nat.mod_lt _ hy) y.toNat_lt)
theorem Qs (r x m:Nat):(r%m*18446744073709551616+x)%m=(r*18446744073709551616+x)%m:=by
 rw [Nat.add_mod,Nat.mul_mod,Nat.mod_mod,<-Nat.mul_mod,<-Nat.add_mod]
theorem aev (a b:ab):(ka a b).2=Nat.blt a.nat b.nat:=rfl
theorem o4 {a b:ab} (h:b.nat<=a.nat):(ka a b).1.nat=a.nat-b.nat:=by
 have ha:=iX a
 show (ofN _).nat=_
 rw [Qb]
 omega
theorem ad4 {w N r:Nat} (hr:r<64):(w+18446744073709551616*N)/2^r%2=w/2^r%2:=by
 have e:18446744073709551616*N=2^r*(2*(2^(63-r)*N)):=by
  rw [<-Nat.mul_assoc,<-Nat.mul_assoc,Nat.mul_comm (2^r) 2,Nat.mul_assoc 2,<-Nat.pow_add,show r+(63-r)=63 by omega]
 rw [e,Nat.add_mul_div_left _ _ (Nat.two_pow_pos r),Nat.add_mul_mod_self_left]
theorem Cd {w N:Nat} (hw:w<18446744073709551616) (r:Nat):(w+18446744073709551616*N)/2^(64+r)=N/2^r:=by
 rw [Nat.pow_add,<-Nat.div_div_eq_div_mul,show 2^64=18446744073709551616 from rfl,show (w+18446744073709551616*N)/18446744073709551616=N by omega]
theorem ah3 {a:ab} {q r:Nat} (hq:q<4) (hr:r<64):((lst a).getD q 0).toNat/2^r%2=a.nat/2^(64*q+r)%2:=by
 have h0:=a.w0.toNat_lt
 have h1:=a.w1.toNat_lt
 have h2:=a.w2.toNat_lt
 unfold Sx.ab.nat
 have hq':q=0\/q=1\/q=2\/q=3:=by omega
 rcases hq' with rfl|rfl|rfl|rfl
 ·rw [Nat.mul_zero,Nat.zero_add,ad4 hr];rfl
 ·rw [show 64*1+r=64+r by omega,Cd h0,ad4 hr];rfl
 ·rw [show 64*2+r=64+(64+r) by omega,Cd h0,Cd h1,ad4 hr];rfl
 ·rw [show 64*3+r=64+(64+(64+r)) by omega,Cd h0,Cd h1,Cd h2];rfl
def avR (n i:Nat):Bool:=Nat.beq (n/2^i%2) 1
theorem at6 (x:UInt64):(x&&&1==1)=Nat.beq (x.toNat%2) 1:=by
 have e:(x&&&1).toNat=x.toNat%2:=by
  rw [UInt64.toNat_and]
  exact Nat.and_two_pow_sub_one_eq_mod x.toNat 1
 rw [<-e]
 by_cases h:x&&&1=1
 ·rw [h];rfl
 ·have h':¬(x&&&1).toNat=1:=λh'=>h (UInt64.toNat_inj.1 h')
  have h2:Nat.beq (x&&&1).toNat 1=false:=by
   cases hb:Nat.beq (x&&&1).toNat 1
   ·rfl
   ·exact absurd (aX hb) h'
  rw [h2]
  simpa using h
theorem axu (x:ab):(x.w0&&&1==1)=(x.w0%2==1):=by
 have h:=at6 x.w0
 rw [h]
 have h2:(x.w0%2).toNat=x.w0.toNat%2:=by rw [UInt64.toNat_mod];rfl
 rw [<-h2]
 by_cases h:x.w0%2=1
 ·rw [h];rfl
 ·have hn:¬(x.w0%2).toNat=1:=λe=>h (UInt64.toNat_inj.1 e)
  have:Nat.beq (x.w0%2).toNat 1=false:=by
   cases hb:Nat.beq (x.w0%2).toNat 1
   ·rfl
   ·exact absurd (aX hb) hn
  rw [this]
  symm
  simpa using h
abbrev Cz:Ty:=.prod .elem (.prod .elem (.prod .elem .bool))
def Sn:af:=⟨[aI,aI,aI],[],true,0,false⟩
abbrev auo:Type:=aij×Unit
def aun:aH:=⟨Ld,[],false⟩
def Eh (x:auo):Bool:=decide (x.1.2.2.1.toNat<=1)
def aib (x:auo):OT Sn.Y:=.ok ⟨aun,((zn x.1.1 x.1.2.1 x.1.2.2.1,FL x.1.1 x.1.2.1 x.1.2.2.1,()),())⟩
theorem anz (a b c:UInt64) (hc:c.toNat<=1) (w:World):(callFunc 159 #[ee a,ee b,ee c]).run ag w=.ok (.value (.tuple #[ee (zn a b c),ee (FL a b c)])) w:=by
 unfold ee
 rw [run_callFunc_extern Tryz.func159 (by kernel_rfl) (by kernel_rfl) (by kernel_rfl) (e:=add64Entry) (by kernel_rfl),run_add64 (a.toNat:Int) (b.toNat:Int) (c.toNat:Int) (by omega) (by omega) (by omega) (by omega)]
 have ha:=a.toNat_lt
 have hb:=b.toNat_lt
 have e1:(((zn a b c).toNat:Nat):Int)=((a.toNat:Int)+b.toNat+c.toNat)%18446744073709551616:=by
  unfold zn
  rw [dg,bj (by omega)]
  omega
 have e2:(((FL a b c).toNat:Nat):Int)=((a.toNat:Int)+b.toNat+c.toNat)/18446744073709551616:=by
  unfold FL
  rw [dg,bj (by omega)]
  omega
 rw [e1,e2]
 rfl
theorem aum:aa ag 159 (Sn.aw Eh aib):=by
 refine aAQ (k:=0) (by kernel_rfl) λx oy vs N w hp ho hr=> ?_
 obtain ⟨⟨a,b,c,⟨⟩⟩,⟨⟩⟩:=x
 cases ho
 have hc:c.toNat<=1:=bh hp
 have hr':SV.bx N [.u64 a,.u64 b,.u64 c] vs:=hr
 simp only [SV.bx,SV.rel] at hr'
 obtain ⟨_,_,rfl,rfl,_,_,rfl,rfl,_,_,rfl,rfl,rfl⟩:=hr'
 refine ⟨.tup [.u64 (zn a b c),.u64 (FL a b c)],_,anz a b c hc w,?_,⟨rfl,by kernel_rfl⟩⟩
 simp only [SV.rel]
 exact ⟨_,rfl,by simp only [SV.bx,SV.rel];exact ⟨_,_,rfl,rfl,_,_,rfl,rfl,rfl⟩⟩
def zl:bi:=(Sn.aw Eh aib)
theorem Yf:aa ag 159 zl:=aum
theorem Ye:au zl:=aq
def ajw:Env:=ap 159 zl avI
theorem anF:bI ag te ajw:=aP follows avH Yf Ye
def R6:af:=⟨[aI,aI,aI],[],true,0,false⟩
abbrev atS:Type:=aij×Unit
def atQ:aH:=⟨Ld,[],false⟩
def Eb (x:atS):Bool:=decide (x.1.2.2.1.toNat<=1)
def ahR (x:atS):OT R6.Y:=.ok ⟨atQ,((pj x.1.1 x.1.2.1 x.1.2.2.1,SK x.1.1 x.1.2.1 x.1.2.2.1,()),())⟩
def aAl:Array Value->Sem Value:=λargs=>do
 let (x,y,b) <-Extern.MathBitsCarry.three "Sub64" args
 pure (Extern.MathBitsCarry.pair ((x+Extern.MathBitsCarry.m64-y-b)%Extern.MathBitsCarry.m64) (if x<y+b then 1 else 0))
theorem akp {P:Program} (x y b:Nat) (hb:b<=1) (w:World):
 (aAl #[.int .u64 x,.int .u64 y,.int .u64 b]).run P w=
  .ok (.tuple #[.int .u64 (((x+18446744073709551616-y-b)%18446744073709551616:Nat):Int),.int .u64 ((if x<y+b then 1 else 0:Nat):Int)]) w:=by
 have:b=0\/b=1:=by omega
 rcases this with rfl|rfl<;>rfl
theorem anp (a b c:UInt64) (hc:c.toNat<=1) (w:World):(callFunc 153 #[ee a,ee b,ee c]).run ag w=.ok (.value (.tuple #[ee (pj a b c),ee (SK a b c)])) w:=by
 unfold ee
 rw [run_callFunc_extern Tryz.func153 (by kernel_rfl) (by kernel_rfl) (by kernel_rfl) (e:=aAl) (by kernel_rfl),akp a.toNat b.toNat c.toNat (by omega)]
 have ha:=a.toNat_lt
 have hb:=b.toNat_lt
 have e1:(pj a b c).toNat=(a.toNat+18446744073709551616-b.toNat-c.toNat)%18446744073709551616:=by
  unfold pj
  rw [dg,bj (by omega)]
 have e2:(SK a b c).toNat=if a.toNat<b.toNat+c.toNat then 1 else 0:=by
  unfold SK
  rw [dg,bj (by split<;>omega)]
 rw [e1,e2]
 rfl
theorem atP:aa ag 153 (R6.aw Eb ahR):=by
 refine aAQ (k:=0) (by kernel_rfl) λx oy vs N w hp ho hr=> ?_
 obtain ⟨⟨a,b,c,⟨⟩⟩,⟨⟩⟩:=x
 cases ho
 have hc:c.toNat<=1:=bh hp
 have hr':SV.bx N [.u64 a,.u64 b,.u64 c] vs:=hr
 simp only [SV.bx,SV.rel] at hr'
 obtain ⟨_,_,rfl,rfl,_,_,rfl,rfl,_,_,rfl,rfl,rfl⟩:=hr'
 refine ⟨.tup [.u64 (pj a b c),.u64 (SK a b c)],_,anp a b c hc w,?_,⟨rfl,by kernel_rfl⟩⟩
 simp only [SV.rel]
 exact ⟨_,rfl,by simp only [SV.bx,SV.rel];exact ⟨_,_,rfl,rfl,_,_,rfl,rfl,rfl⟩⟩
def zb:bi:=(R6.aw Eb ahR)
theorem XN:aa ag 153 zb:=atP
theorem XM:au zb:=aq
def ajn:Env:=ap 153 zb ajw
theorem OO:bI ag te ajn:=aP follows anF XN XM
def qU:af:=⟨Ld,[],true,0,false⟩
abbrev KG:Type:=(UInt64×mJ)×Unit
def KF:aH:=⟨Ld,[],false⟩
def R8 (a0:UInt64) (a1:UInt64):OT qU.Y:=
 let z0:UInt64:=bA a0 (32:Int)
 let z1:UInt64:=bA a1 (32:Int)
 let z2:UInt64:=z0*(a1&&&(4294967295:UInt64))+bA ((a0&&&(4294967295:UInt64))*(a1&&&(4294967295:UInt64))) (32:Int)
 (.ok ⟨KF,((z0*z1+bA z2 (32:Int)+bA ((z2&&&(4294967295:UInt64))+(a0&&&(4294967295:UInt64))*z1) (32:Int),a0*a1,()),())⟩)
theorem adZ (pre:KG->Bool) (F:KG->OT qU.Y) (hF:∀ (x:KG) oy,pre x=true->(F x).run=some oy->(R8 x.1.1 x.1.2.1).run=some oy):aa ag 191 (qU.aw pre F):=
 cC OO 191 Tryz.f191 qU [KF] bw (λx=>R8 x.1.1 x.1.2.1) hF
def Ob (_:KG):Bool:=true
def R9 (x:KG):OT qU.Y:=.ok ⟨KF,((avO x.1.1 x.1.2.1,x.1.1*x.1.2.1,()),())⟩
theorem atZ:aa ag 191 (qU.aw Ob R9):=adZ _ _ λx oy _ ho=>by
 rw [<-ho]
 simp only [R9,R8,aF4]
def zf:bi:=(qU.aw Ob R9)
theorem XU:aa ag 191 zf:=atZ
theorem XT:au zf:=aq
def ajr:Env:=ap 191 zf ajn
theorem OR:bI ag te ajr:=aP follows OO XU XT
def qW:af:=⟨[aI],[],true,0,false⟩
abbrev KM:Type:=mJ×Unit
def fF:aH:=⟨ic,[],false⟩
def Gv (a0:UInt64):OT qW.Y:=
 let z0:UInt64:=bA a0 (32:Int)
 let z1:UInt64:=bA z0 (16:Int)
 let z2:Int:=(↑(UInt8.toNat (UInt64.toUInt8 (bA z1 (8:Int)))):Int)
 let z3:aG:=List.replicate 64 (8:UInt8)
 let z4:aG:=List.append (List.append [(0:UInt8),(1:UInt8),(2:UInt8),(2:UInt8),(3:UInt8),(3:UInt8),(3:UInt8),(3:UInt8),(4:UInt8),(4:UInt8),(4:UInt8),(4:UInt8),(4:UInt8),(4:UInt8),(4:UInt8),(4:UInt8),(5:UInt8),(5:UInt8),(5:UInt8),(5:UInt8),(5:UInt8),(5:UInt8),(5:UInt8),(5:UInt8),(5:UInt8),(5:UInt8),(5:UInt8),(5:UInt8),(5:UInt8),(5:UInt8),(5:UInt8),(5:UInt8),(6:UInt8),(6:UInt8),(6:UInt8),(6:UInt8),(6:UInt8),(6:UInt8),(6:UInt8),(6:UInt8),(6:UInt8),(6:UInt8),(6:UInt8),(6:UInt8),(6:UInt8),(6:UInt8),(6:UInt8),(6:UInt8),(6:UInt8),(6:UInt8),(6:UInt8),(6:UInt8),(6:UInt8),(6:UInt8),(6:UInt8),(6:UInt8),(6:UInt8),(6:UInt8),(6:UInt8),(6:UInt8),(6:UInt8),(6:UInt8),(6:UInt8),(6:UInt8)] (List.replicate 64 (7:UInt8))) (List.append z3 z3)
 let z5:Int:=(56:Int)+(↑(UInt8.toNat (List.getD z4 (Int.toNat z2) (0:UInt8))):Int)
 let z6:Int:=(↑(UInt8.toNat (UInt64.toUInt8 z1)):Int)
 let z7:Int:=(48:Int)+(↑(UInt8.toNat (List.getD z4 (Int.toNat z6) (0:UInt8))):Int)
 let z8:Int:=(↑(UInt8.toNat (UInt64.toUInt8 (bA z0 (8:Int)))):Int)
 let z9:Int:=(40:Int)+(↑(UInt8.toNat (List.getD z4 (Int.toNat z8) (0:UInt8))):Int)
 let z10:Int:=(↑(UInt8.toNat (UInt64.toUInt8 z0)):Int)
 let z11:Int:=(32:Int)+(↑(UInt8.toNat (List.getD z4 (Int.toNat z10) (0:UInt8))):Int)
 let z12:UInt64:=bA a0 (16:Int)
 let z13:Int:=(↑(UInt8.toNat (UInt64.toUInt8 (bA z12 (8:Int)))):Int)
 let z14:Int:=(24:Int)+(↑(UInt8.toNat (List.getD z4 (Int.toNat z13) (0:UInt8))):Int)
 let z15:Int:=(↑(UInt8.toNat (UInt64.toUInt8 z12)):Int)
 let z16:Int:=(16:Int)+(↑(UInt8.toNat (List.getD z4 (Int.toNat z15) (0:UInt8))):Int)
 let z17:Int:=(↑(UInt8.toNat (UInt64.toUInt8 (bA a0 (8:Int)))):Int)
 let z18:Int:=(8:Int)+(↑(UInt8.toNat (List.getD z4 (Int.toNat z17) (0:UInt8))):Int)
 let z19:Int:=(↑(UInt8.toNat (UInt64.toUInt8 a0)):Int)
 let z20:Int:=(0:Int)+(↑(UInt8.toNat (List.getD z4 (Int.toNat z19) (0:UInt8))):Int)
 (.br (decide ((4294967296:UInt64)<=a0))
 (.br (decide ((65536:UInt64)<=z0))
  (.br (decide ((256:UInt64)<=z1))
   (gd [inB z2 256,inR z5] (.ok ⟨fF,((z5,()),())⟩))
   (gd [inB z6 256,inR z7] (.ok ⟨fF,((z7,()),())⟩)))
  (.br (decide ((256:UInt64)<=z0))
   (gd [inB z8 256,inR z9] (.ok ⟨fF,((z9,()),())⟩))
   (gd [inB z10 256,inR z11] (.ok ⟨fF,((z11,()),())⟩))))
 (.br (decide ((65536:UInt64)<=a0))
  (.br (decide ((256:UInt64)<=z12))
   (gd [inB z13 256,inR z14] (.ok ⟨fF,((z14,()),())⟩))
   (gd [inB z15 256,inR z16] (.ok ⟨fF,((z16,()),())⟩)))
  (.br (decide ((256:UInt64)<=a0))
   (gd [inB z17 256,inR z18] (.ok ⟨fF,((z18,()),())⟩))
   (gd [inB z19 256,inR z20] (.ok ⟨fF,((z20,()),())⟩)))))
theorem ad3 (pre:KM->Bool) (F:KM->OT qW.Y) (hF:∀ (x:KM) oy,pre x=true->(F x).run=some oy->(Gv x.1.1).run=some oy):aa ag 190 (qW.aw pre F):=
 cC OR 190 Tryz.f190 qW [fF] bw (λx=>Gv x.1.1) hF
def gr (x:UInt64):Bool:=(x==16513537)||(x==16521217)
theorem eu {x:UInt64} (h:gr x=true):x=16513537\/x=16521217:=by
 simpa [gr] using h
def Ee (x:KM):Bool:=gr x.1.1
def ah2 (_:KM):OT qW.Y:=.ok ⟨fF,(((24:Int),()),())⟩
theorem XZ:(Gv 16513537).run=some ⟨fF,(((24:Int),()),())⟩/\(Gv 16521217).run=some ⟨fF,(((24:Int),()),())⟩:=⟨by kernel_rfl,by kernel_rfl⟩
theorem at4:aa ag 190 (qW.aw Ee ah2):=ad3 _ _ λx oy hp ho=>by
 rw [<-ho]
 clear ho
 obtain ⟨⟨x,⟨⟩⟩,⟨⟩⟩:=x
 rcases eu hp with h|h
 ·have h:x=16513537:=h
  subst h
  exact XZ.1
 ·have h:x=16521217:=h
  subst h
  exact XZ.2
def zh:bi:=(qW.aw Ee ah2)
theorem XY:aa ag 190 zh:=at4
theorem XX:au zh:=aq
def ajt:Env:=ap 190 zh ajr
theorem OS:bI ag te ajt:=aP follows OR XY XX
def zg:af:=⟨[aI],[],true,0,false⟩
abbrev XV:Type:=mJ×Unit
def Sa:aH:=⟨ic,[],false⟩
def at2 (a0:UInt64):OT zg.Y:=
 (gd [Ee ((a0,()),())] (.ok ⟨Sa,(((40:Int),()),())⟩))
theorem anw (pre:XV->Bool) (F:XV->OT zg.Y) (hF:∀ (x:XV) oy,pre x=true->(F x).run=some oy->(at2 x.1.1).run=some oy):aa ag 177 (zg.aw pre F):=
 cC OS 177 Tryz.f177 zg [Sa] bw (λx=>at2 x.1.1) hF
def KK (x:XV):Bool:=gr x.1.1
def at3 (_:XV):OT zg.Y:=.ok ⟨Sa,(((40:Int),()),())⟩
theorem azn:aa ag 177 (zg.aw KK at3):=anw _ _ λx oy hp ho=>by
 rw [<-ho]
 clear ho
 obtain ⟨⟨x,⟨⟩⟩,⟨⟩⟩:=x
 have hp:gr x=true:=hp
 refine (ae ?_).trans rfl
 simp only [ax,aA,aC,av]
 first|exact hp|exact ⟨hp,rfl⟩
def Ed:bi:=(zg.aw KK at3)
theorem ad2:aa ag 177 Ed:=azn
theorem ad1:au Ed:=aq
def avJ:Env:=ap 177 Ed ajt
theorem B8:bI ag te avJ:=aP follows OS ad2 ad1
def nB:af:=⟨[aI,aI,aI],[],true,0,false⟩
abbrev KR:Type:=aij×Unit
def at8:Shape:=⟨135,[(2,aI),(8,aI),(9,aI),(10,aI),(11,aI),(13,aI),(14,aI),(15,aI),(16,aI)],[],0,true⟩
abbrev fc:Type:=auI×Unit
def mD:Shape:=⟨135,[(2,aI),(8,aI),(9,aI),(10,aI),(11,aI),(13,aI),(14,aI),(15,aI)],[],0,true⟩
abbrev tU:Type:=(UInt64×UInt64×ait)×Unit
def aud (a2:UInt64) (a8:UInt64) (a9:UInt64) (a10:UInt64) (a11:UInt64) (a13:UInt64) (a14:UInt64) (a15:UInt64) (a16:UInt64):OT (Sum fc aT):=
 let z0:Bool:=decide ((4294967296:UInt64)<=a16+a9)
 (.br (decide ((4294967296:UInt64)<=a15))
 (.br (z0)
  (.ok (.inr ⟨(.exit 0,mD),((a2,a8,a9,a10,a11,a13,a14,a15-(1:UInt64),()),())⟩))
  (.ok (.inl ((a2,a8,a9,a10,a11,a13,a14,a15-(1:UInt64),a16+a9,()),()))))
 (.br (decide ((4294967296:UInt64)*a16+a13<a15*a10))
  (.br (z0)
   (.ok (.inr ⟨(.exit 0,mD),((a2,a8,a9,a10,a11,a13,a14,a15-(1:UInt64),()),())⟩))
   (.ok (.inl ((a2,a8,a9,a10,a11,a13,a14,a15-(1:UInt64),a16+a9,()),()))))
  (.ok (.inr ⟨(.exit 0,mD),((a2,a8,a9,a10,a11,a13,a14,a15,()),())⟩))))
def KQ (s:fc):OT (Sum fc aT):=aud s.1.1 s.1.2.1 s.1.2.2.1 s.1.2.2.2.1 s.1.2.2.2.2.1 s.1.2.2.2.2.2.1 s.1.2.2.2.2.2.2.1 s.1.2.2.2.2.2.2.2.1 s.1.2.2.2.2.2.2.2.2.1
def Ya (g0_0:fc->tU) (s:fc):OT aT:=(.ok ⟨(.exit 0,mD),g0_0 s⟩)
def at7:Shape:=⟨135,[(2,aI),(8,aI),(9,aI),(10,aI),(14,aI),(15,aI),(16,aI),(17,aI),(18,aI)],[],0,true⟩
abbrev gS:Type:=auI×Unit
def mC:Shape:=⟨135,[(2,aI),(8,aI),(14,aI),(15,aI),(17,aI),(18,aI)],[],0,true⟩
abbrev tT:Type:=ait×Unit
def auc (a2:UInt64) (a8:UInt64) (a9:UInt64) (a10:UInt64) (a14:UInt64) (a15:UInt64) (a16:UInt64) (a17:UInt64) (a18:UInt64):OT (Sum gS aT):=
 let z0:Bool:=decide ((4294967296:UInt64)<=a16+a9)
 (.br (decide ((4294967296:UInt64)<=a18))
 (.br (z0)
  (.ok (.inr ⟨(.exit 2,mC),((a2,a8,a14,a15,a17,a18-(1:UInt64),()),())⟩))
  (.ok (.inl ((a2,a8,a9,a10,a14,a15,a16+a9,a17,a18-(1:UInt64),()),()))))
 (.br (decide ((4294967296:UInt64)*a16+a14<a18*a10))
  (.br (z0)
   (.ok (.inr ⟨(.exit 2,mC),((a2,a8,a14,a15,a17,a18-(1:UInt64),()),())⟩))
   (.ok (.inl ((a2,a8,a9,a10,a14,a15,a16+a9,a17,a18-(1:UInt64),()),()))))
  (.ok (.inr ⟨(.exit 2,mC),((a2,a8,a14,a15,a17,a18,()),())⟩))))
def KP (s:gS):OT (Sum gS aT):=auc s.1.1 s.1.2.1 s.1.2.2.1 s.1.2.2.2.1 s.1.2.2.2.2.1 s.1.2.2.2.2.2.1 s.1.2.2.2.2.2.2.1 s.1.2.2.2.2.2.2.2.1 s.1.2.2.2.2.2.2.2.2.1
def X9 (g2_2:gS->tT) (s:gS):OT aT:=(.ok ⟨(.exit 2,mC),g2_2 s⟩)
def oE:aH:=⟨Ld,[],false⟩
section
variable (ok0:fc->Bool) (g0_0:fc->tU) (ok2:gS->Bool) (g2_2:gS->tT)
def Sf (a0:UInt64) (a1:UInt64) (a2:UInt64):OT nB.Y:=
 let z0:Bool:= !a2==(0:UInt64)
 let z1:UInt64:=cn a2 (40:Int)
 let z2:UInt64:=bA z1 (32:Int)
 let z3:UInt64:=cn a0 (40:Int)|||bA a1 (24:Int)
 let z4:UInt64:=cn a1 (40:Int)
 let z5:UInt64:=z3/z2
 let z6:fc:=((z1,(40:UInt64),z2,z1&&&(4294967295:UInt64),z3,bA z4 (32:Int),z4&&&(4294967295:UInt64),z5,z3-z5*z2,()),())
 let z7:=(g0_0 z6).fst
 let z8:=z7.snd
 let z9:=z8.snd
 let z10:=z9.fst
 let z11:=z7.fst
 let z12:=z9.snd
 let z13:=z12.snd
 let z14:=z13.snd
 let z15:=z14.snd
 let z16:=z15.snd.fst
 let z17:UInt64:=z13.fst*(4294967296:UInt64)+z14.fst-z16*z11
 let z18:UInt64:=z17/z10
 let z19:fc:=((z11,z8.fst,z10,z12.fst,z15.fst,z16,z17-z18*z10,z17,z18,()),())
 let z20:=(g2_2 z19).fst
 let z21:=z20.snd
 let z22:=z21.snd
 let z23:=z22.snd
 let z24:=z23.snd
 let z25:=z24.snd.fst
 (.br (a2==(0:UInt64))
 .fail
 (.br (decide (a2<=a0))
  .fail
  (.br (a0==(0:UInt64))
   (gd [z0,z0] (.ok ⟨oE,((a1/a2,a1%a2,()),())⟩))
   (gd [KK ((a2,()),()),!z2==(0:UInt64),ok0 z6,!z10==(0:UInt64),ok2 z19] (.ok ⟨oE,((z23.fst*(4294967296:UInt64)+z25,bA (z24.fst*(4294967296:UInt64)+z22.fst-z25*z20.fst) (↑(UInt64.toNat z21.fst):Int),()),())⟩)))))
theorem ad6 (h0:aY KQ ok0 (Ya g0_0)) (h2:aY KP ok2 (X9 g2_2)) (pre:KR->Bool) (F:KR->OT nB.Y) (hF:∀ (x:KR) oy,pre x=true->(F x).run=some oy->(Sf ok0 g0_0 ok2 g2_2 x.1.1 x.1.2.1 x.1.2.2.1).run=some oy):aa ag 152 (nB.aw pre F):=
 cC B8 152 Tryz.f152 nB [oE] (js B8 2 at7 [(2,mC)] none none KP bw h2 (js B8 0 at8 [(0,mD)] none none KQ bw h0 bw)) (λx=>Sf ok0 g0_0 ok2 g2_2 x.1.1 x.1.2.1 x.1.2.2.1) hF
end
def Od (s:fc):Bool:=decide (s.1.2.2.2.1=0/\s.1.2.2.2.2.2.2.2.1<4294967296)
def X8 (s:fc):tU:=((s.1.1,s.1.2.1,s.1.2.2.1,s.1.2.2.2.1,s.1.2.2.2.2.1,s.1.2.2.2.2.2.1,s.1.2.2.2.2.2.2.1,s.1.2.2.2.2.2.2.2.1,()),())
theorem Ie {a b:UInt64} (h:b<a):decide (a<=b)=false:=bn (by rw [UInt64.le_iff_toNat_le,UInt64.lt_iff_toNat_lt] at*;omega)
theorem not_lt_zero {a b:UInt64}:decide (a<b*0)=false:=bn (by
 have:b*0=0:=by rw [<-kE];simp
 rw [this,UInt64.lt_iff_toNat_lt]
 exact Nat.not_lt_zero _)
theorem aub:aY KQ Od (Ya X8):=by
 rintro ⟨⟨a2,a8,a9,a10,a11,a13,a14,a15,a16,⟨⟩⟩,⟨⟩⟩ h
 have h':=bh h
 dsimp only at h'
 obtain ⟨rfl,hl⟩:=h'
 exact ⟨1,_,aO ((OT.al (Ie hl)).trans (OT.al not_lt_zero)),rfl⟩
def Oc (s:gS):Bool:=decide (s.1.2.2.2.1=0/\s.1.2.2.2.2.2.2.2.2.1<4294967296)
def X7 (s:gS):tT:=((s.1.1,s.1.2.1,s.1.2.2.2.2.1,s.1.2.2.2.2.2.1,s.1.2.2.2.2.2.2.2.1,s.1.2.2.2.2.2.2.2.2.1,()),())
theorem aua:aY KP Oc (X9 X7):=by
 rintro ⟨⟨a2,a8,a9,a10,a14,a15,a16,a17,a18,⟨⟩⟩,⟨⟩⟩ h
 have h':=bh h
 dsimp only at h'
 obtain ⟨rfl,hl⟩:=h'
 exact ⟨1,_,aO ((OT.al (Ie hl)).trans (OT.al not_lt_zero)),rfl⟩
def vM (x:KR):Bool:=gr x.1.2.2.1&&decide (x.1.1<x.1.2.2.1)
def Sg (x:KR):OT nB.Y:=.ok ⟨oE,((aFm x.1.1 x.1.2.1 x.1.2.2.1,W8 x.1.1 x.1.2.1 x.1.2.2.1,()),())⟩
theorem anY {v z:Nat} (hv:v<4294967296) (hz:z<4294967296):(v*4294967296%2^64+z)%2^64=(v*(256*16777216)+z)%2^64:=by
 rw [bj (a:=v*4294967296) (by omega)]
theorem avW {s:Nat} (hs:s<4294967296):s*4294967296/2^40=s/256%2^64:=by
 rw [bj (by omega),show (2:Nat)^40=256*4294967296 from rfl,Nat.mul_div_mul_right _ _ (by omega)]
theorem X4 {h l y:UInt64} {m:Nat} (hm:y.toNat=m) (hy:(cn y 40).toNat=m*1099511627776) (hy1:(bA (cn y 40) 32).toNat=m*256) (hy0:cn y 40&&&4294967295=0) (hm0:0<m) (hm1:m<16777216) (hh:h.toNat<m):
 let u:=cn h 40|||bA l 24
 let q1:=u/bA (cn y 40) 32
 let un21:=u*4294967296+bA (cn l 40) 32-q1*cn y 40
 let q0:=un21/bA (cn y 40) 32
 q1<4294967296/\q0<4294967296/\q1*4294967296+q0=aFm h l y/\bA (un21*4294967296+(cn l 40&&&4294967295)-q0*cn y 40) 40=W8 h l y:=by
 intro u q1 un21 q0
 have hl:=l.toNat_lt
 have hu:u.toNat=h.toNat*1099511627776+l.toNat/16777216:=by
  have e1:(cn h 40).toNat=h.toNat*1099511627776:=by
   rw [show ((40:Int))=((40:Nat):Int) from rfl,lY _ _ (by omega)]
   exact bj (by omega)
  have e2:(bA l 24).toNat=l.toNat/16777216:=ga l 24 (by omega)
  simp only [u]
  rw [UInt64.toNat_or,e1,e2,Nat.mul_comm]
  have:=Nat.two_pow_add_eq_or_of_lt (i:=40) (b:=l.toNat/16777216) (by omega) h.toNat
  exact this.symm
 have hun1:(bA (cn l 40) 32).toNat=l.toNat%16777216*256:=by
  rw [show ((32:Int))=((32:Nat):Int) from rfl,ga _ _ (by omega),show ((40:Int))=((40:Nat):Int) from rfl,lY _ _ (by omega)]
  omega
 have hun0:cn l 40&&&4294967295=0:=by
  rw [<-kE,jX,show ((40:Int))=((40:Nat):Int) from rfl,lY _ _ (by omega)]
  show l.toNat*2^40%2^64%4294967296=0
  omega
 have hq1:q1.toNat=u.toNat/(m*256):=by simp only [q1];rw [UInt64.toNat_div,hy1]
 have hN:h.toNat*18446744073709551616+l.toNat=u.toNat*16777216+l.toNat%16777216:=by rw [hu];omega
 have hqr:u.toNat=q1.toNat*(m*256)+u.toNat%(m*256):=by
  rw [hq1,Nat.mul_comm]
  exact (Nat.div_add_mod _ _).symm
 have hr:u.toNat%(m*256)<m*256:=Nat.mod_lt _ (by omega)
 have hul:u.toNat<m*256*4294967296:=by rw [hu];omega
 have hq1l:q1.toNat<4294967296:=by rw [hq1];exact Nat.div_lt_of_lt_mul hul
 generalize hrr:u.toNat%(m*256)=r at*
 have hprod:q1.toNat*(m*1099511627776)=q1.toNat*(m*256)*4294967296:=by
  rw [Nat.mul_assoc,Nat.mul_assoc]
 have h21:un21.toNat=r*4294967296+l.toNat%16777216*256:=by
  simp only [un21]
  rw [UInt64.toNat_sub,UInt64.toNat_add,UInt64.toNat_mul,UInt64.toNat_mul,hun1,hy,hprod,show (4294967296:UInt64).toNat=4294967296 from rfl]
  generalize q1.toNat*(m*256)=A at*
  omega
 have hq0:q0.toNat=un21.toNat/(m*256):=by simp only [q0];rw [UInt64.toNat_div,hy1]
 have h21l:un21.toNat<m*256*4294967296:=by rw [h21];omega
 have hq0l:q0.toNat<4294967296:=by rw [hq0];exact Nat.div_lt_of_lt_mul h21l
 have hqr0:un21.toNat=q0.toNat*(m*256)+un21.toNat%(m*256):=by
  rw [hq0,Nat.mul_comm]
  exact (Nat.div_add_mod _ _).symm
 have hr0:un21.toNat%(m*256)<m*256:=Nat.mod_lt _ (by omega)
 obtain ⟨d1,d2⟩:=RJ (K:=16777216) (L:=256) hm0 (by omega) hN hqr
 have e21:(r*16777216+l.toNat%16777216)*256=un21.toNat:=by rw [h21];omega
 rw [e21] at d1 d2
 refine ⟨by rw [UInt64.lt_iff_toNat_lt];exact hq1l,by rw [UInt64.lt_iff_toNat_lt];exact hq0l,?_,?_⟩
 ·rw [<-kE,UInt64.toNat_add,UInt64.toNat_mul,show (4294967296:UInt64).toNat=4294967296 from rfl,hq0]
  unfold aFm
  rw [hm,dg,d1,<-hq0]
  exact anY hq1l hq0l
 ·have hprod0:q0.toNat*(m*1099511627776)=q0.toNat*(m*256)*4294967296:=by
   rw [Nat.mul_assoc,Nat.mul_assoc]
  have e3:(un21*4294967296+(cn l 40&&&4294967295)-q0*cn y 40).toNat=(un21.toNat%(m*256))*4294967296:=by
   rw [hun0,UInt64.toNat_sub,UInt64.toNat_add,UInt64.toNat_mul,UInt64.toNat_mul,hy,hprod0,show (4294967296:UInt64).toNat=4294967296 from rfl,show (0:UInt64).toNat=0 from rfl]
   generalize un21.toNat%(m*256)=s at*
   generalize q0.toNat*(m*256)=A at*
   omega
  rw [<-kE,show ((40:Int))=((40:Nat):Int) from rfl,ga _ _ (by omega),show ((40:Nat):Int)=40 from rfl,e3]
  unfold W8
  rw [hm,dg,d2]
  exact avW (by omega)
theorem aac {y:UInt64} (h:gr y=true):∃ m,y.toNat=m/\(cn y 40).toNat=m*1099511627776/\(bA (cn y 40) 32).toNat=m*256/\cn y 40&&&4294967295=0/\0<m/\m<16777216:=by
 rcases eu h with rfl|rfl
 ·exact ⟨16513537,rfl,by decide+kernel,by decide+kernel,by decide+kernel,by omega,by omega⟩
 ·exact ⟨16521217,rfl,by decide+kernel,by decide+kernel,by decide+kernel,by omega,by omega⟩
theorem at9:aa ag 152 (nB.aw vM Sg):=ad6 Od X8 Oc X7 aub aua _ _ λx oy hp ho=>by
 rw [<-ho]
 clear ho
 obtain ⟨⟨h,l,y,⟨⟩⟩,⟨⟩⟩:=x
 have hp':(gr y&&decide (h<y))=true:=hp
 rw [av] at hp'
 obtain ⟨hs,hlt⟩:=hp'
 have hlt:=bh hlt
 obtain ⟨m,f1,f2,f3,f4,f5,f6⟩:=aac hs
 have hh:h.toNat<m:=by rw [<-f1];exact UInt64.lt_iff_toNat_lt.1 hlt
 have hy0:¬y=0:=λe=>by rw [e] at f1;simp at f1;omega
 have hyb:(y==0)=false:=by simpa using hy0
 have hle:decide (y<=h)=false:=Ie hlt
 unfold Sf
 refine (OT.al hyb).trans ((OT.al hle).trans ?_)
 by_cases h0:h=0
 ·subst h0
  refine (OT.ak rfl).trans ((ae ?_).trans ?_)
  ·simp only [hyb,ax,aA,aC,Bool.not_false]
  ·have e1:aFm 0 l y=l/y:=by
    rw [<-kE]
    unfold aFm
    rw [dg,UInt64.toNat_div,show (0:UInt64).toNat=0 from rfl,Nat.zero_mul,Nat.zero_add]
    exact bj (Nat.lt_of_le_of_lt (Nat.div_le_self _ _) l.toNat_lt)
   have e2:W8 0 l y=l%y:=by
    rw [<-kE]
    unfold W8
    rw [dg,UInt64.toNat_mod,show (0:UInt64).toNat=0 from rfl,Nat.zero_mul,Nat.zero_add]
    exact bj (Nat.lt_of_le_of_lt (Nat.mod_le _ _) l.toNat_lt)
   simp only [Sg,e1,e2]
 ·have hb:(h==0)=false:=by simpa using h0
  obtain ⟨w1,w2,w3,w4⟩:=X4 (l:=l) f1 f2 f3 f4 f5 f6 hh
  have hz:(!(bA (cn y 40) 32==0))=true:=by
   have:¬bA (cn y 40) 32=0:=λe=>by rw [e] at f3;simp at f3;omega
   simpa using this
  refine (OT.al hb).trans ((ae ?_).trans ?_)
  ·simp only [ax,aA,aC,av]
   exact ⟨hs,hz,aj ⟨f4,w1⟩,hz,aj ⟨f4,w2⟩⟩
  ·show some (⟨oE,((_,bA _ ((40:UInt64).toNat:Int),()),())⟩:nB.Y)=some ⟨oE,((aFm h l y,W8 h l y,()),())⟩
   rw [<-w3,<-w4]
   rfl
def zi:bi:=(nB.aw vM Sg)
theorem X6:aa ag 152 zi:=at9
theorem X5:au zi:=aq
def aju:Env:=ap 152 zi avJ
theorem Ew:bI ag te aju:=aP follows B8 X6 X5
def GS:af:=⟨Lc,[],true,0,false⟩
abbrev aoa:Type:=ru×Unit
def aCq:Shape:=⟨29,aBv,Yu,0,true⟩
abbrev iI:Type:=Yn
def zN:Shape:=⟨29,[dC,jy,(7,aI)],mN,0,true⟩
abbrev uv:Type:=aik
def aCt (a7:UInt64) (a9:Int) (c0:ao) (c1:ao) (c2:ao) (c3:ao):OT (Sum iI aT):=
 let z0:Bool:=inB a9 4
 let z1:UInt64:=List.getD c0 (Int.toNat a9+0) (0:UInt64)
 let z2:UInt64:=List.getD c1 (Int.toNat a9+0) (0:UInt64)
 (.br (decide (a9<(4:Int)))
 (gd [z0,decide (Int.toNat a9+0<List.length c0),z0,decide (Int.toNat a9+0<List.length c1),Eh ((z1,z2,a7,()),()),z0,decide (Int.toNat a9+0<List.length c3),inR (a9+(1:Int))] (.ok (.inl (((),(),(),(),FL z1 z2 a7,a9+(1:Int),()),c0,c1,c2,List.set c3 (Int.toNat a9+0) (zn z1 z2 a7),()))))
 (.ok (.inr ⟨(.exit 0,zN),(((),(),a7,()),c2,c3,())⟩)))
def O2 (s:iI):OT (Sum iI aT):=aCt s.1.2.2.2.2.1 s.1.2.2.2.2.2.1 s.2.1 s.2.2.1 s.2.2.2.1 s.2.2.2.2.1
def an8 (g0_0:iI->uv) (s:iI):OT aT:=(.ok ⟨(.exit 0,zN),g0_0 s⟩)
def Zq:aH:=⟨[dY,kZ],[],false⟩
section
variable (ok0:iI->Bool) (g0_0:iI->uv)
def az3 (a0:ab) (a1:ab):OT GS.Y:=
 let z0:iI:=(((),(),(),(),(0:UInt64),(0:Int),()),[a0.w0,a0.w1,a0.w2,a0.w3],[a1.w0,a1.w1,a1.w2,a1.w3],[(0:UInt64),(0:UInt64),(0:UInt64),(0:UInt64)],[(0:UInt64),(0:UInt64),(0:UInt64),(0:UInt64)],())
 let z1:uv:=g0_0 z0
 let z2:=z1.snd
 let z3:=z2.snd.fst
 let z4:=z2.fst
 let z5:ao:=lay z4 z3 4 (0:UInt64)
 (gd [ok0 z0,decide (4<=List.length z3),decide ((4/1:Nat)+0<=List.length z4),decide (4<=List.length z5)] (.ok ⟨Zq,(({w0:=List.getD z5 0 0,w1:=List.getD z5 1 0,w2:=List.getD z5 2 0,w3:=List.getD z5 3 0},!z1.fst.snd.snd.fst==(0:UInt64),()),())⟩))
theorem an6 (h0:aY O2 ok0 (an8 g0_0)) (pre:aoa->Bool) (F:aoa->OT GS.Y) (hF:∀ (x:aoa) oy,pre x=true->(F x).run=some oy->(az3 ok0 g0_0 x.1.1 x.1.2.1).run=some oy):aa ag 128 (GS.aw pre F):=
 cC Ew 128 Tryz.f128 GS [Zq] (js Ew 0 aCq [(0,zN)] none none O2 bw h0 bw) (λx=>az3 ok0 g0_0 x.1.1 x.1.2.1) hF
end
def azM (a b:ao) (k:Nat) (s:Fp):Fp:=(s.1.set k (zn (a.getD k 0) (b.getD k 0) s.2),FL (a.getD k 0) (b.getD k 0) s.2)
def aez (s:iI):Bool:=decide (s.1.2.2.2.2.1=0/\s.1.2.2.2.2.2.1=0/\s.2.1.length=4/\s.2.2.1.length=4/\s.2.2.2.2.1= [0,0,0,0])
def an7 (s:iI):uv:=(((),(),(upto (azM s.2.1 s.2.2.1) ([0,0,0,0],0) 4).2,()),s.2.2.2.1,(upto (azM s.2.1 s.2.2.1) ([0,0,0,0],0) 4).1,())
theorem aCs:aY O2 aez (an8 an7):=by
 rintro ⟨⟨⟨⟩,⟨⟩,⟨⟩,⟨⟩,c,i,⟨⟩⟩,⟨c0,c1,c2,c3,⟨⟩⟩⟩ h
 have h':=bh h
 dsimp only at h'
 obtain ⟨rfl,rfl,h0,h1,rfl⟩:=h'
 have:=(aW (T:=O2) (λk s=>((((),(),(),(),s.2,(k:Int),()),c0,c1,c2,s.1,()):iI)) (azM c0 c1)
  (λs=>(⟨(.exit 0,zN),(((),(),s.2,()),c2,s.1,())⟩:aT)) 4 ([0,0,0,0],0) (λ_ s=>s.1.length=4/\s.2.toNat<=1) ⟨rfl,by decide⟩ (λk s hk hs=>⟨?_,?_⟩) (λs hs=> ?_)).1
 ·obtain ⟨m,hm⟩:=this
  exact ⟨m,_,hm,rfl⟩
 ·refine (OT.ak (aj (by dsimp only;omega))).trans ((ae ?_).trans ?_)
  ·simp only [bH,Nat.add_zero,h0,h1,hs.1,ax,aA,aC,av]
   exact ⟨aR (by omega),aj (by omega),aR (by omega),aj (by omega),aj hs.2,aR (by omega),aj (by omega),aL (by omega)⟩
  ·simp only [OT.gb,bH,Nat.add_zero]
   rfl
 ·exact ⟨by simp only [azM,dm];exact hs.1,K0 hs.2⟩
 ·exact OT.al (bn (by dsimp only;omega))
theorem aIo (x y:ao) (hx:x.length=4) (hy:y.length=4):lay x y 4 0=y:=Vt hx hy
def aey (_:aoa):Bool:=true
def an9 (x:aoa):OT GS.Y:=.ok ⟨Zq,(((SJ x.1.1 x.1.2.1).1,(SJ x.1.1 x.1.2.1).2,()),())⟩
theorem aCr:aa ag 128 (GS.aw aey an9):=an6 aez an7 aCs _ _ λx oy hp ho=>by
 rw [<-ho]
 clear ho
 obtain ⟨⟨a,b,⟨⟩⟩,⟨⟩⟩:=x
 obtain ⟨_,hw⟩:=ajy a b
 refine (ae ?_).trans ?_
 ·simp only [ax,aA,aC,av]
  exact ⟨rfl,rfl,rfl,rfl⟩
 ·simp only [an9,hw]
  rfl
def GR:bi:=(GS.aw aey an9)
theorem ajK:aa ag 128 GR:=aCr
theorem ajJ:au GR:=aq
def aBL:Env:=ap 128 GR aju
theorem Sz:bI ag te aBL:=aP follows Ew ajK ajJ
def GJ:af:=⟨Lc,[],true,0,false⟩
abbrev anP:Type:=ru×Unit
def aCf:Shape:=⟨29,aBv,Yu,0,true⟩
abbrev iG:Type:=Yn
def zJ:Shape:=⟨29,[dC,jy,(7,aI)],mN,0,true⟩
abbrev uq:Type:=aik
def aCi (a7:UInt64) (a9:Int) (c0:ao) (c1:ao) (c2:ao) (c3:ao):OT (Sum iG aT):=
 let z0:Bool:=inB a9 4
 let z1:UInt64:=List.getD c0 (Int.toNat a9+0) (0:UInt64)
 let z2:UInt64:=List.getD c1 (Int.toNat a9+0) (0:UInt64)
 (.br (decide (a9<(4:Int)))
 (gd [z0,decide (Int.toNat a9+0<List.length c0),z0,decide (Int.toNat a9+0<List.length c1),Eb ((z1,z2,a7,()),()),z0,decide (Int.toNat a9+0<List.length c3),inR (a9+(1:Int))] (.ok (.inl (((),(),(),(),SK z1 z2 a7,a9+(1:Int),()),c0,c1,c2,List.set c3 (Int.toNat a9+0) (pj z1 z2 a7),()))))
 (.ok (.inr ⟨(.exit 0,zJ),(((),(),a7,()),c2,c3,())⟩)))
def OX (s:iG):OT (Sum iG aT):=aCi s.1.2.2.2.2.1 s.1.2.2.2.2.2.1 s.2.1 s.2.2.1 s.2.2.2.1 s.2.2.2.2.1
def anN (g0_0:iG->uq) (s:iG):OT aT:=(.ok ⟨(.exit 0,zJ),g0_0 s⟩)
def Zk:aH:=⟨[dY,kZ],[],false⟩
section
variable (ok0:iG->Bool) (g0_0:iG->uq)
def azX (a0:ab) (a1:ab):OT GJ.Y:=
 let z0:iG:=(((),(),(),(),(0:UInt64),(0:Int),()),[a0.w0,a0.w1,a0.w2,a0.w3],[a1.w0,a1.w1,a1.w2,a1.w3],[(0:UInt64),(0:UInt64),(0:UInt64),(0:UInt64)],[(0:UInt64),(0:UInt64),(0:UInt64),(0:UInt64)],())
 let z1:uq:=g0_0 z0
 let z2:=z1.snd
 let z3:=z2.snd.fst
 let z4:=z2.fst
 let z5:ao:=lay z4 z3 4 (0:UInt64)
 (gd [ok0 z0,decide (4<=List.length z3),decide ((4/1:Nat)+0<=List.length z4),decide (4<=List.length z5)] (.ok ⟨Zk,(({w0:=List.getD z5 0 0,w1:=List.getD z5 1 0,w2:=List.getD z5 2 0,w3:=List.getD z5 3 0},!z1.fst.snd.snd.fst==(0:UInt64),()),())⟩))
theorem anL (h0:aY OX ok0 (anN g0_0)) (pre:anP->Bool) (F:anP->OT GJ.Y) (hF:∀ (x:anP) oy,pre x=true->(F x).run=some oy->(azX ok0 g0_0 x.1.1 x.1.2.1).run=some oy):aa ag 118 (GJ.aw pre F):=
 cC Sz 118 Tryz.f118 GJ [Zk] (js Sz 0 aCf [(0,zJ)] none none OX bw h0 bw) (λx=>azX ok0 g0_0 x.1.1 x.1.2.1) hF
end
def LA (a b:ao) (k:Nat) (s:Fp):Fp:=(s.1.set k (pj (a.getD k 0) (b.getD k 0) s.2),SK (a.getD k 0) (b.getD k 0) s.2)
def aeq (s:iG):Bool:=decide (s.1.2.2.2.2.1=0/\s.1.2.2.2.2.2.1=0/\s.2.1.length=4/\s.2.2.1.length=4/\s.2.2.2.2.1= [0,0,0,0])
def anM (s:iG):uq:=(((),(),(upto (LA s.2.1 s.2.2.1) ([0,0,0,0],0) 4).2,()),s.2.2.2.1,(upto (LA s.2.1 s.2.2.1) ([0,0,0,0],0) 4).1,())
theorem aCh:aY OX aeq (anN anM):=by
 rintro ⟨⟨⟨⟩,⟨⟩,⟨⟩,⟨⟩,c,i,⟨⟩⟩,⟨c0,c1,c2,c3,⟨⟩⟩⟩ h
 have h':=bh h
 dsimp only at h'
 obtain ⟨rfl,rfl,h0,h1,rfl⟩:=h'
 have:=(aW (T:=OX) (λk s=>((((),(),(),(),s.2,(k:Int),()),c0,c1,c2,s.1,()):iG)) (LA c0 c1)
  (λs=>(⟨(.exit 0,zJ),(((),(),s.2,()),c2,s.1,())⟩:aT)) 4 ([0,0,0,0],0) (λ_ s=>s.1.length=4/\s.2.toNat<=1) ⟨rfl,by decide⟩ (λk s hk hs=>⟨?_,?_⟩) (λs hs=> ?_)).1
 ·obtain ⟨m,hm⟩:=this
  exact ⟨m,_,hm,rfl⟩
 ·refine (OT.ak (aj (by dsimp only;omega))).trans ((ae ?_).trans ?_)
  ·simp only [bH,Nat.add_zero,h0,h1,hs.1,ax,aA,aC,av]
   exact ⟨aR (by omega),aj (by omega),aR (by omega),aj (by omega),aj hs.2,aR (by omega),aj (by omega),aL (by omega)⟩
  ·simp only [OT.gb,bH,Nat.add_zero]
   rfl
 ·exact ⟨by simp only [LA,dm];exact hs.1,CC⟩
 ·exact OT.al (bn (by dsimp only;omega))
def aep (_:anP):Bool:=true
def anO (x:anP):OT GJ.Y:=.ok ⟨Zk,(((ka x.1.1 x.1.2.1).1,(ka x.1.1 x.1.2.1).2,()),())⟩
theorem aCg:aa ag 118 (GJ.aw aep anO):=anL aeq anM aCh _ _ λx oy hp ho=>by
 rw [<-ho]
 clear ho
 obtain ⟨⟨a,b,⟨⟩⟩,⟨⟩⟩:=x
 obtain ⟨_,hw⟩:=Mm a b
 refine (ae ?_).trans ?_
 ·simp only [ax,aA,aC,av]
  exact ⟨rfl,rfl,rfl,rfl⟩
 ·simp only [anO,hw]
  rfl
def GI:bi:=(GJ.aw aep anO)
theorem ajA:aa ag 118 GI:=aCg
theorem ajz:au GI:=aq
def aBI:Env:=ap 118 GI aBL
theorem aiB:bI ag te aBI:=aP follows Sz ajA ajz
def wM:af:=⟨Lc,[],true,0,false⟩
abbrev SX:Type:=ru×Unit
def O1:aH:=⟨mO,[],false⟩
def anZ (a0:ab) (a1:ab):OT wM.Y:=
 (.ok ⟨O1,(((ka a0 a1).snd,()),())⟩)
theorem ajF (pre:SX->Bool) (F:SX->OT wM.Y) (hF:∀ (x:SX) oy,pre x=true->(F x).run=some oy->(anZ x.1.1 x.1.2.1).run=some oy):aa ag 112 (wM.aw pre F):=
 cC aiB 112 Tryz.f112 wM [O1] bw (λx=>anZ x.1.1 x.1.2.1) hF
def SW (_:SX):Bool:=true
def an0 (x:SX):OT wM.Y:=.ok ⟨O1,((Nat.blt x.1.1.nat x.1.2.1.nat,()),())⟩
theorem avY:aa ag 112 (wM.aw SW an0):=ajF _ _ λx oy _ ho=>ho
def Cg:bi:=(wM.aw SW an0)
theorem Zp:aa ag 112 Cg:=avY
theorem Zo:au Cg:=aq
def auU:Env:=ap 112 Cg aBI
theorem Yz:bI ag te auU:=aP follows aiB Zp Zo
def EA:af:=⟨jz,[],true,0,false⟩
abbrev an5:Type:=aif
def Ck:aH:=⟨mO,[],false⟩
def az1 (a0:ab) (a1:Int):OT EA.Y:=
 let z0:Int:=Int.tdiv a1 (64:Int)
 let z1:Int:=Int.tmod a1 (64:Int)
 (.br (decide ((0:Int)<=a1))
 (.br (decide (a1<(256:Int)))
  (gd [true&&inR z0,inB z0 4,decide (Int.toNat z0+0<4),decide ((0:Int)<=z1)] (.ok ⟨Ck,((bA (List.getD [a0.w0,a0.w1,a0.w2,a0.w3] (Int.toNat z0+0) (0:UInt64)) z1&&&(1:UInt64)==(1:UInt64),()),())⟩))
  (.ok ⟨Ck,((false,()),())⟩))
 (.ok ⟨Ck,((false,()),())⟩))
theorem an4 (pre:an5->Bool) (F:an5->OT EA.Y) (hF:∀ (x:an5) oy,pre x=true->(F x).run=some oy->(az1 x.1.1 x.1.2.1).run=some oy):aa ag 169 (EA.aw pre F):=
 cC Yz 169 Tryz.f169 EA [Ck] bw (λx=>az1 x.1.1 x.1.2.1) hF
def rm (a:ab) (i:Int):Bool:=cond (decide (0<=i)) (cond (decide (i<256)) (avR a.nat i.toNat) false) false
def aew (_:an5):Bool:=true
def az2 (x:an5):OT EA.Y:=.ok ⟨Ck,((rm x.1.1 x.1.2.1,()),())⟩
theorem at5 {a:ab} {i:Int} (h1:0<=i) (h2:i<256):(bA (List.getD [a.w0,a.w1,a.w2,a.w3] (Int.toNat (Int.tdiv i 64)+0) 0) (Int.tmod i 64)&&&1==1)=rm a i:=by
 obtain ⟨n,rfl⟩:∃ n:Nat,i=(n:Int):=⟨i.toNat,by omega⟩
 have hn:n<256:=by omega
 have t1:Int.tdiv (n:Int) 64=((n/64:Nat):Int):=by rw [Int.tdiv_eq_ediv_of_nonneg (by omega)];omega
 have t2:Int.tmod (n:Int) 64=((n%64:Nat):Int):=by rw [Int.tmod_eq_emod_of_nonneg (by omega)];omega
 rw [t1,t2,at6,ga _ _ (by omega),bH,Nat.add_zero]
 have:=ah3 (a:=a) (q:=n/64) (r:=n%64) (by omega) (by omega)
 rw [show 64*(n/64)+n%64=n by omega] at this
 unfold rm avR
 rw [aj h1,aj h2,bH]
 simp only [aV]
 rw [<-this]
 rfl
theorem aCp:aa ag 169 (EA.aw aew az2):=an4 _ _ λx oy _ ho=>by
 rw [<-ho]
 clear ho
 obtain ⟨⟨a,i,⟨⟩⟩,⟨⟩⟩:=x
 show _=(OT.ok ⟨Ck,((rm a i,()),())⟩:OT EA.Y).run
 by_cases h1:0<=i
 ·refine (OT.ak (aj h1)).trans ?_
  by_cases h2:i<256
  ·refine (OT.ak (aj h2)).trans ((ae ?_).trans ?_)
   ·obtain ⟨n,rfl⟩:∃ n:Nat,i=(n:Int):=⟨i.toNat,by omega⟩
    have t1:Int.tdiv (n:Int) 64=((n/64:Nat):Int):=by rw [Int.tdiv_eq_ediv_of_nonneg (by omega)];omega
    have t2:Int.tmod (n:Int) 64=((n%64:Nat):Int):=by rw [Int.tmod_eq_emod_of_nonneg (by omega)];omega
    simp only [t1,t2,bH,Nat.add_zero,ax,aA,aC,av,Bool.true_and]
    exact ⟨aL (by omega),aR (by omega),aj (by omega),aj (by omega)⟩
   ·simp only [at5 h1 h2]
  ·have e:rm a i=false:=by unfold rm;rw [aj h1,bn h2];rfl
   rw [e]
   exact OT.al (bn h2)
 ·have e:rm a i=false:=by unfold rm;rw [bn h1];rfl
  rw [e]
  exact OT.al (bn h1)
def GQ:bi:=(EA.aw aew az2)
theorem ajH:aa ag 169 GQ:=aCp
theorem ajG:au GQ:=aq
def aBK:Env:=ap 169 GQ auU
theorem Sy:bI ag te aBK:=aP follows Yz ajH ajG
theorem FX (x b:UInt64) (hb:b.toNat<=1):2*x.toNat+b.toNat=(cn x 1|||b).toNat+18446744073709551616*(bA x 63).toNat:=by
 have hx:=x.toNat_lt
 have e1:(cn x 1).toNat=2^1*(x.toNat%9223372036854775808):=by
  have e:(cn x 1).toNat=x.toNat*2^1%2^64:=lY x 1 (by omega)
  rw [e]
  omega
 have e2:(bA x 63).toNat=x.toNat/2^63:=ga x 63 (by omega)
 have e3:=Nat.two_pow_add_eq_or_of_lt (i:=1) (b:=b.toNat) (by omega) (x.toNat%9223372036854775808)
 rw [UInt64.toNat_or,e1,<-e3,e2]
 omega
theorem Px (x:UInt64):(bA x 63).toNat<=1:=by
 have hx:=x.toNat_lt
 have e2:(bA x 63).toNat=x.toNat/2^63:=ga x 63 (by omega)
 rw [e2]
 omega
def cZ (a:ab) (b:UInt64):ab×UInt64:=(⟨cn a.w0 1|||b,cn a.w1 1|||bA a.w0 63,cn a.w2 1|||bA a.w1 63,cn a.w3 1|||bA a.w2 63⟩,bA a.w3 63)
theorem akn (a:ab) (b:UInt64) (hb:b.toNat<=1):2*a.nat+b.toNat=(cZ a b).1.nat+115792089237316195423570985008687907853269984665640564039457584007913129639936*(cZ a b).2.toNat:=by
 have h0:=FX a.w0 b hb
 have h1:=FX a.w1 _ (Px a.w0)
 have h2:=FX a.w2 _ (Px a.w1)
 have h3:=FX a.w3 _ (Px a.w2)
 unfold cZ Sx.ab.nat
 dsimp only
 omega
def apm (m r:ab) (b:UInt64):ab:=cond (!((cZ r b).2==0)) (ka (cZ r b).1 m).1 (cond (!(ka (cZ r b).1 m).2) (ka (cZ r b).1 m).1 (cZ r b).1)
theorem agt {n m:Nat} (h1:m<=n) (h2:n<2*m):n-m=n%m:=by
 rw [Nat.mod_eq_sub_mod h1,bj (by omega)]
theorem aw5 {m r:ab} {b:UInt64} (hb:b.toNat<=1) (hr:r.nat<m.nat):(apm m r b).nat=(2*r.nat+b.toNat)%m.nat:=by
 have h:=akn r b hb
 have hm:=iX m
 have hs:=iX (cZ r b).1
 have h2:(cZ r b).2.toNat<=1:=Px _
 have hw:(ka (cZ r b).1 m).1.nat=((cZ r b).1.nat+115792089237316195423570985008687907853269984665640564039457584007913129639936-m.nat)%115792089237316195423570985008687907853269984665640564039457584007913129639936:=by
  unfold ka
  exact Qb _
 unfold apm
 cases ho:(cZ r b).2==0
 ·have ho:(cZ r b).2.toNat=1:=by
   have:(cZ r b).2.toNat≠0:=λe=>by
    have e':(cZ r b).2=0:=UInt64.toNat_inj.1 e
    rw [e'] at ho
    cases ho
   omega
  show (ka (cZ r b).1 m).1.nat=_
  rw [hw,<-agt (n:=2*r.nat+b.toNat) (by omega) (by omega),bj (by omega)]
  omega
 ·have ho:(cZ r b).2.toNat=0:=by
   rw [beq_iff_eq] at ho
   rw [ho]
   rfl
  have e:2*r.nat+b.toNat=(cZ r b).1.nat:=by omega
  cases hu:(ka (cZ r b).1 m).2
  ·have hu':m.nat<=(cZ r b).1.nat:=by
    rw [aev] at hu
    exact Nat.le_of_not_lt λh'=>by rw [(Nat.blt_eq ..).mpr h'] at hu;cases hu
   show (ka (cZ r b).1 m).1.nat=_
   rw [o4 hu',e,agt hu' (by omega)]
  ·have hu':(cZ r b).1.nat<m.nat:=by
    rw [aev] at hu
    exact (Nat.blt_eq ..).mp hu
   show (cZ r b).1.nat=_
   rw [e,bj hu']
def Ma (a:ab) (i:Nat):UInt64:=bA ((lst a).getD (i/64) 0) ((i%64:Nat):Int)&&&1
theorem azo (a:ab) {i:Nat} (hi:i<256):(Ma a i).toNat=a.nat/2^i%2:=by
 have e:∀ x:UInt64,(x&&&1).toNat=x.toNat%2:=λx=>by
  rw [UInt64.toNat_and]
  exact Nat.and_two_pow_sub_one_eq_mod x.toNat 1
 unfold Ma
 rw [e,ga _ _ (by omega),ah3 (by omega) (by omega),show 64*(i/64)+i%64=i by omega]
def avK (m a r:ab):Nat->ab:=upto (λk r=>apm m r (Ma a (255-k))) r
theorem PD {m a r:ab} (hr:r.nat<m.nat):∀ k,k<=256->(avK m a r k).nat=(r.nat*2^k+a.nat/2^(256-k))%m.nat/\(avK m a r k).nat<m.nat
 |0,_=>by
  have h:=iX a
  refine ⟨?_,hr⟩
  show r.nat=_
  rw [Nat.pow_zero,Nat.mul_one,Nat.div_eq_of_lt h,Nat.add_zero,bj hr]
 |k+1,hk=>by
  obtain ⟨h1,h2⟩:=PD (a:=a) hr k (by omega)
  have hb:=azo a (i:=255-k) (by omega)
  have hb1:(Ma a (255-k)).toNat<=1:=by omega
  have h3:=aw5 hb1 h2
  have e:(avK m a r (k+1)).nat=(2*(avK m a r k).nat+(Ma a (255-k)).toNat)%m.nat:=h3
  have e2:a.nat/2^(255-k)=2*(a.nat/2^(256-k))+(Ma a (255-k)).toNat:=by
   rw [hb,show 256-k=255-k+1 by omega,Nat.pow_succ,<-Nat.div_div_eq_div_mul]
   omega
  refine ⟨?_,?_⟩
  ·rw [e,h1,show 256-(k+1)=255-k by omega,e2,Nat.pow_succ]
   rw [<-Nat.mod_add_mod,Nat.mul_mod_mod,Nat.mod_add_mod]
   congr 1
   rw [Nat.mul_add,<-Nat.mul_assoc,Nat.mul_comm (2^k) 2,<-Nat.mul_assoc,Nat.mul_comm r.nat 2,Nat.add_assoc]
  ·rw [e]
   exact Nat.mod_lt _ (by omega)
def aFc (lo hi m:ab):ab:=ofN ((lo.nat+115792089237316195423570985008687907853269984665640564039457584007913129639936*hi.nat)%m.nat)
theorem aw6 {m lo hi:ab} (hm:0<m.nat):avK m lo (avK m hi ⟨0,0,0,0⟩ 256) 256=aFc lo hi m:=by
 have h0:(⟨0,0,0,0⟩:ab).nat<m.nat:=hm
 obtain ⟨h1,h2⟩:=PD (a:=hi) h0 256 (Nat.le_refl _)
 obtain ⟨h3,h4⟩:=PD (a:=lo) h2 256 (Nat.le_refl _)
 have hl:=iX m
 refine iY ?_
 unfold aFc
 rw [h3,h1,nQ (Nat.lt_trans (Nat.mod_lt _ hm) hl),show 256-256=0 from rfl,Nat.pow_zero,Nat.div_one,Nat.div_one,show (⟨0,0,0,0⟩:ab).nat=0 from rfl,Nat.zero_mul,Nat.zero_add,<-Nat.mod_add_mod,Nat.mod_mul_mod,Nat.mod_add_mod,Nat.mul_comm,Nat.add_comm]
def o3:af:=⟨[dY,aI],[],true,0,false⟩
abbrev GL:Type:=(ab×mJ)×Unit
def anQ:Shape:=⟨25,[(1,aI),ua,BS,ry],mN,0,true⟩
abbrev eP:Type:=(UInt64×kU)×wg
def o0:Shape:=⟨25,[(1,aI),ua,BS],mN,0,true⟩
abbrev mP:Type:=(UInt64×mK)×wg
def anT (a1:UInt64) (a7:Int) (c0:ao) (c1:ao):OT (Sum eP aT):=
 let z0:Bool:=inB a7 4
 let z1:Bool:=decide (Int.toNat a7+0<List.length c0)
 let z2:UInt64:=List.getD c0 (Int.toNat a7+0) (0:UInt64)
 (.br (decide (a7<(4:Int)))
 (gd [z0,z1,z0,z1,z0,z1,inR (a7+(1:Int))] (.ok (.inl ((bA z2 (63:Int),(),(),a7+(1:Int),()),List.set c0 (Int.toNat a7+0) (cn z2 (1:Int)|||a1),c1,()))))
 (.ok (.inr ⟨(.exit 0,o0),((a1,(),(),()),c0,c1,())⟩)))
def zK (s:eP):OT (Sum eP aT):=anT s.1.1 s.1.2.2.2.1 s.2.1 s.2.2.1
def SR (g0_0:eP->mP) (s:eP):OT aT:=(.ok ⟨(.exit 0,o0),g0_0 s⟩)
def GK:aH:=⟨[dY,aI],[],false⟩
section
variable (ok0:eP->Bool) (g0_0:eP->mP)
def aer (a0:ab) (a1:UInt64):OT o3.Y:=
 let z0:eP:=((a1,(),(),(0:Int),()),[a0.w0,a0.w1,a0.w2,a0.w3],[(0:UInt64),(0:UInt64),(0:UInt64),(0:UInt64)],())
 let z1:mP:=g0_0 z0
 let z2:=z1.snd
 let z3:=z2.fst
 let z4:=z2.snd.fst
 let z5:ao:=lay z4 z3 4 (0:UInt64)
 (gd [ok0 z0,decide (4<=List.length z3),decide ((4/1:Nat)+0<=List.length z4),decide (4<=List.length z5)] (.ok ⟨GK,(({w0:=List.getD z5 0 0,w1:=List.getD z5 1 0,w2:=List.getD z5 2 0,w3:=List.getD z5 3 0},z1.fst.fst,()),())⟩))
theorem Zl (h0:aY zK ok0 (SR g0_0)) (pre:GL->Bool) (F:GL->OT o3.Y) (hF:∀ (x:GL) oy,pre x=true->(F x).run=some oy->(aer ok0 g0_0 x.1.1 x.1.2.1).run=some oy):aa ag 184 (o3.aw pre F):=
 cC Sy 184 Tryz.f184 o3 [GK] (js Sy 0 anQ [(0,o0)] none none zK bw h0 bw) (λx=>aer ok0 g0_0 x.1.1 x.1.2.1) hF
end
def aHs (k:Nat) (s:Fp):Fp:=(s.1.set k (cn (s.1.getD k 0) 1|||s.2),bA (s.1.getD k 0) 63)
def Ml (s:eP):Bool:=decide (s.1.2.2.2.1=0/\s.2.1.length=4)
def SQ (s:eP):mP:=(((upto aHs (s.2.1,s.1.1) 4).2,(),(),()),(upto aHs (s.2.1,s.1.1) 4).1,s.2.2.1,())
theorem anS:aY zK Ml (SR SQ):=by
 rintro ⟨⟨b,⟨⟩,⟨⟩,i,⟨⟩⟩,⟨a,r,⟨⟩⟩⟩ h
 have h':=bh h
 dsimp only at h'
 obtain ⟨rfl,hl⟩:=h'
 have:=(aW (T:=zK) (λk s=>(((s.2,(),(),(k:Int),()),s.1,r,()):eP)) aHs
  (λs=>(⟨(.exit 0,o0),((s.2,(),(),()),s.1,r,())⟩:aT)) 4 (a,b) (λ_ s=>s.1.length=4) hl (λk s hk hs=>⟨?_,(dm ..).trans hs⟩) (λs hs=> ?_)).1
 ·obtain ⟨m,hm⟩:=this
  exact ⟨m,_,hm,rfl⟩
 ·refine (OT.ak (aj (by dsimp only;omega))).trans ((ae ?_).trans ?_)
  ·simp only [bH,Nat.add_zero,hs,ax,aA,aC,av]
   exact ⟨aR (by omega),aj (by omega),aR (by omega),aj (by omega),aR (by omega),aj (by omega),aL (by omega)⟩
  ·simp only [OT.gb,bH,Nat.add_zero]
   rfl
 ·exact OT.al (bn (by dsimp only;omega))
def Mk (_:GL):Bool:=true
def aes (x:GL):OT o3.Y:=.ok ⟨GK,(((cZ x.1.1 x.1.2.1).1,(cZ x.1.1 x.1.2.1).2,()),())⟩
theorem anR:aa ag 184 (o3.aw Mk aes):=Zl Ml SQ anS _ _ λx oy hp ho=>by
 rw [<-ho]
 clear ho
 obtain ⟨⟨a,b,⟨⟩⟩,⟨⟩⟩:=x
 refine (ae ?_).trans rfl
 simp only [ax,aA,aC,av]
 exact ⟨rfl,rfl,rfl,rfl⟩
def wJ:bi:=(o3.aw Mk aes)
theorem SP:aa ag 184 wJ:=anR
theorem SO:au wJ:=aq
def aiC:Env:=ap 184 wJ aBK
theorem El:bI ag te aiC:=aP follows Sy SP SO
def Ex:af:=⟨[dY,dY,dY],[],true,0,false⟩
abbrev anX:Type:=(ab×ru)×Unit
def aCj:Shape:=⟨57,[(5,dW),jy,BT,(10,fH),(11,aB),(21,.val true (.arr 2 .elem)),(22,aB)],Yu,0,true⟩
abbrev fT:Type:=(Unit×Unit×Unit×Unit×Int×az×eE)×oO
def zL:Shape:=⟨57,[(5,dW),jy,BT,(21,.val true (.arr 2 .elem)),(22,aB)],Yt,0,true⟩
abbrev ur:Type:=(Unit×Unit×Unit×az×eE)×oL
def Zn (a11:Int) (a21:az) (a22:Int) (c0:ao) (c1:ao) (c2:ao) (c3:ao):OT (Sum fT aT):=
 let z0:Nat:=List.length c2
 let z1:Int:=Int.tdiv a11 (64:Int)
 let z2:Int:=Int.tmod a11 (64:Int)
 let z3:ab×UInt64:=cZ {w0:=List.getD c2 0 0,w1:=List.getD c2 1 0,w2:=List.getD c2 2 0,w3:=List.getD c2 3 0} (bA (List.getD c3 (Int.toNat z1+0) (0:UInt64)) z2&&&(1:UInt64))
 let z4:=z3.fst
 let z5:ao:=List.set (List.set (List.set (List.set c2 0 z4.w0) 1 z4.w1) 2 z4.w2) 3 z4.w3
 let z6:Nat:=List.length z5
 let z7:Bool:=decide ((4/1:Nat)+0<=z6)
 let z8:Bool:=inR (a11-(1:Int))
 let z9:ab:= {w0:=0,w1:=0,w2:=0,w3:=0}
 let z10:ab×Bool:=ka {w0:=List.getD z5 0 0,w1:=List.getD z5 1 0,w2:=List.getD z5 2 0,w3:=List.getD z5 3 0} {w0:=List.getD c0 0 0,w1:=List.getD c0 1 0,w2:=List.getD c0 2 0,w3:=List.getD c0 3 0}
 let z11:=z10.fst
 let z12:ao:=List.set (List.set (List.set (List.set z5 0 z11.w0) 1 z11.w1) 2 z11.w2) 3 z11.w3
 (.br (decide ((0:Int)<=a11))
 (gd [decide (4<=z0),true&&inR z1,inB z1 4,decide (Int.toNat z1+0<List.length c3),decide ((0:Int)<=z2),decide ((4/1:Nat)+0<=z0),decide (4<=z6),decide (4<=List.length c0)] (.br (!z3.snd==(0:UInt64))
  (gd [z7,z8] (.ok (.inl (((),(),(),(),a11-(1:Int),[List.getD a21 0 z9,List.getD a21 1 z9],a22,()),c0,c1,z12,c3,()))))
  (.br (!z10.snd)
   (gd [z7,z8] (.ok (.inl (((),(),(),(),a11-(1:Int),[List.getD a21 0 z9,List.getD a21 1 z9],a22,()),c0,c1,z12,c3,()))))
   (gd [z8] (.ok (.inl (((),(),(),(),a11-(1:Int),[List.getD a21 0 z9,List.getD a21 1 z9],a22,()),c0,c1,z5,c3,())))))))
 (.ok (.inr ⟨(.exit 2,zL),(((),(),(),[List.getD a21 0 z9,List.getD a21 1 z9],a22,()),c0,c1,c2,())⟩)))
def OZ (s:fT):OT (Sum fT aT):=Zn s.1.2.2.2.2.1 s.1.2.2.2.2.2.1 s.1.2.2.2.2.2.2.1 s.2.1 s.2.2.1 s.2.2.2.1 s.2.2.2.2.1
def anV (g2_2:fT->ur) (s:fT):OT aT:=(.ok ⟨(.exit 2,zL),(((g2_2 s).1.1,(g2_2 s).1.2.1,(g2_2 s).1.2.2.1,s.1.2.2.2.2.2.1,s.1.2.2.2.2.2.2.1,()),(g2_2 s).2)⟩)
def Cb:aH:=⟨jz,[],false⟩
section
variable (ok2:fT->Bool) (g2_2:fT->ur)
def SS (a0:ab) (a1:ab) (a2:ab):OT Ex.Y:=
 let z0:fT:=(((),(),(),(),(255:Int),[a1,a0],(0:Int),()),[a2.w0,a2.w1,a2.w2,a2.w3],[(0:UInt64),(0:UInt64),(0:UInt64),(0:UInt64)],[(0:UInt64),(0:UInt64),(0:UInt64),(0:UInt64)],[a1.w0,a1.w1,a1.w2,a1.w3],())
 let z1:=(g2_2 z0).snd
 let z2:=z1.snd
 let z3:fT:=(((),(),(),(),(255:Int),[a1,a0],(0:Int)+(1:Int),()),z1.fst,z2.fst,z2.snd.fst,[a0.w0,a0.w1,a0.w2,a0.w3],())
 let z4:=(g2_2 z3).snd.snd
 let z5:=z4.snd.fst
 let z6:=z4.fst
 let z7:ao:=lay z6 z5 4 (0:UInt64)
 (.br (a2.w0==(0:UInt64)&&(a2.w1==(0:UInt64)&&(a2.w2==(0:UInt64)&&(a2.w3==(0:UInt64)&&true))))
 (.ok ⟨Cb,(({w0:=0,w1:=0,w2:=0,w3:=0},(10:Int),()),())⟩)
 (gd [ok2 z0,ok2 z3,decide (4<=List.length z5),decide ((4/1:Nat)+0<=List.length z6),decide (4<=List.length z7)] (.ok ⟨Cb,(({w0:=List.getD z7 0 0,w1:=List.getD z7 1 0,w2:=List.getD z7 2 0,w3:=List.getD z7 3 0},(0:Int),()),())⟩)))
theorem anU (h2:aY OZ ok2 (anV g2_2)) (pre:anX->Bool) (F:anX->OT Ex.Y) (hF:∀ (x:anX) oy,pre x=true->(F x).run=some oy->(SS ok2 g2_2 x.1.1 x.1.2.1 x.1.2.2.1).run=some oy):aa ag 163 (Ex.aw pre F):=
 cC El 163 Tryz.f163 Ex [Cb] (js El 2 aCj [(2,zL)] none none OZ bw h2 bw) (λx=>SS ok2 g2_2 x.1.1 x.1.2.1 x.1.2.2.1) hF
end
def OY (s:fT):Bool:=decide (s.1.2.2.2.2.1=255/\s.1.2.2.2.2.2.1.length=2/\s.2.1.length=4/\s.2.2.2.1.length=4/\s.2.2.2.2.1.length=4)
def Zm (s:fT):ur:=(((),(),(),s.1.2.2.2.2.2.1,s.1.2.2.2.2.2.2.1,()),s.2.1,s.2.2.1,lst (avK (elemOf s.2.1) (elemOf s.2.2.2.2.1) (elemOf s.2.2.2.1) 256),())
theorem aHx (i:Nat):Int.tdiv (i:Int) 64=((i/64:Nat):Int):=by rw [Int.tdiv_eq_ediv_of_nonneg (by omega)];omega
theorem aHy (i:Nat):Int.tmod (i:Int) 64=((i%64:Nat):Int):=by rw [Int.tmod_eq_emod_of_nonneg (by omega)];omega
theorem aCl:aY OZ OY (anV Zm):=by
 rintro ⟨⟨⟨⟩,⟨⟩,⟨⟩,⟨⟩,i,arr,j,⟨⟩⟩,⟨c0,c1,c2,c3,⟨⟩⟩⟩ h
 have h':=bh h
 dsimp only at h'
 obtain ⟨rfl,ha,h0,h2,h3⟩:=h'
 obtain ⟨x,y,rfl⟩:∃ x y,arr= [x,y]:=by
  match arr,ha with
  | [x,y],_=>exact ⟨x,y,rfl⟩
 obtain ⟨m,rfl⟩:∃ a,c0=lst a:=⟨elemOf c0,(bY h0).symm⟩
 obtain ⟨r,rfl⟩:∃ a,c2=lst a:=⟨elemOf c2,(bY h2).symm⟩
 obtain ⟨t,rfl⟩:∃ a,c3=lst a:=⟨elemOf c3,(bY h3).symm⟩
 have:=(aW (T:=OZ) (λk r=>((((),(),(),(),(255:Int)-(k:Int),[x,y],j,()),lst m,c1,lst r,lst t,()):fT)) (λk r=>apm m r (Ma t (255-k)))
  (λr=>(⟨(.exit 2,zL),(((),(),(),[x,y],j,()),lst m,c1,lst r,())⟩:aT)) 256 r (λ_ _=>True) trivial (λk r hk _=>⟨?_,trivial⟩) (λr _=> ?_)).1
 ·obtain ⟨n,hn⟩:=this
  exact ⟨n,_,hn,rfl⟩
 ·have e0:(255:Int)-(k:Int)=((255-k:Nat):Int):=by omega
  have e1:(255:Int)-((k+1:Nat):Int)=((255-k:Nat):Int)-1:=by omega
  have hb:bA ((lst t).getD ((255-k)/64) 0) (((255-k)%64:Nat):Int)&&&1=Ma t (255-k):=rfl
  rw [e1,e0]
  show (Zn ((255-k:Nat):Int) [x,y] j (lst m) c1 (lst r) (lst t)).run=some (.inl (((),(),(),(),((255-k:Nat):Int)-1,[x,y],j,()),lst m,c1,lst (apm m r (Ma t (255-k))),lst t,()))
  unfold Zn
  simp only [aHx,aHy,bH,Nat.add_zero,hb]
  refine (OT.ak (aj (by omega))).trans ((ae ?_).trans ?_)
  ·simp only [ax,aA,aC,Bool.true_and,av]
   have hl:∀ a:ab,(lst a).length=4:=λ_=>rfl
   exact ⟨rfl,aL (by omega),aR (by omega),aj (by rw [hl];omega),aj (by omega),rfl,rfl,rfl⟩
  ·have hr:inR (((255-k:Nat):Int)-1)=true:=aL (by omega)
   rcases (bX ((cZ r (Ma t (255-k))).2==0)).symm with g|g
   ·have e:apm m r (Ma t (255-k))=(ka (cZ r (Ma t (255-k))).1 m).1:=by unfold apm;rw [g];rfl
    rw [e]
    exact (OT.ak (b:= !((cZ r (Ma t (255-k))).2==0)) (by rw [g];rfl)).trans ((ae (by rw [hr];rfl)).trans rfl)
   ·refine (OT.al (b:= !((cZ r (Ma t (255-k))).2==0)) (by rw [g];rfl)).trans ?_
    rcases (bX (ka (cZ r (Ma t (255-k))).1 m).2).symm with u|u
    ·have e:apm m r (Ma t (255-k))=(ka (cZ r (Ma t (255-k))).1 m).1:=by unfold apm;rw [g,u];rfl
     rw [e]
     exact (OT.ak (b:= !(ka (cZ r (Ma t (255-k))).1 m).2) (by rw [u];rfl)).trans ((ae (by rw [hr];rfl)).trans rfl)
    ·have e:apm m r (Ma t (255-k))=(cZ r (Ma t (255-k))).1:=by unfold apm;rw [g,u];rfl
     rw [e]
     exact (OT.al (b:= !(ka (cZ r (Ma t (255-k))).1 m).2) (by rw [u];rfl)).trans ((ae (by rw [hr];rfl)).trans rfl)
 ·exact OT.al (bn (by dsimp only;omega))
def aet (_:anX):Bool:=true
def EQ (m:ab):Bool:=m.w0==0&&(m.w1==0&&(m.w2==0&&(m.w3==0&&true)))
def azY (x:anX):OT Ex.Y:=.br (EQ x.1.2.2.1) (.ok ⟨Cb,((⟨0,0,0,0⟩,(10:Int),()),())⟩) (.ok ⟨Cb,((aFc x.1.1 x.1.2.1 x.1.2.2.1,(0:Int),()),())⟩)
theorem alk {m:ab} (h:EQ m=false):0<m.nat:=by
 refine Nat.pos_of_ne_zero λe=> ?_
 have e2:m=⟨0,0,0,0⟩:=iY e
 rw [e2] at h
 cases h
theorem anW {ok2:fT->Bool} {g2:fT->ur} {a b m H R:ab} (h:EQ m=false)
 (h1:ok2 (((),(),(),(),255,[b,a],0,()),lst m,lst ⟨0,0,0,0⟩,lst ⟨0,0,0,0⟩,lst b,())=true)
 (e1:(g2 (((),(),(),(),255,[b,a],0,()),lst m,lst ⟨0,0,0,0⟩,lst ⟨0,0,0,0⟩,lst b,())).2=(lst m,lst ⟨0,0,0,0⟩,lst H,()))
 (h2:ok2 (((),(),(),(),255,[b,a],0+1,()),lst m,lst ⟨0,0,0,0⟩,lst H,lst a,())=true)
 (e2:(g2 (((),(),(),(),255,[b,a],0+1,()),lst m,lst ⟨0,0,0,0⟩,lst H,lst a,())).2=(lst m,lst ⟨0,0,0,0⟩,lst R,())):
 (SS ok2 g2 a b m).run=some ⟨Cb,((R,(0:Int),()),())⟩:=by
 have l:∀ e:ab,lst e= [e.w0,e.w1,e.w2,e.w3]:=λ_=>rfl
 rw [l m,l ⟨0,0,0,0⟩] at h1 e1 h2 e2
 rw [l b] at h1 e1
 rw [l a] at h2 e2
 unfold SS
 simp only [e1,h1,e2,h2]
 exact (OT.al h).trans ((ae rfl).trans rfl)
theorem aCk:aa ag 163 (Ex.aw aet azY):=anU OY Zm aCl _ _ λx oy hp ho=>by
 rw [<-ho]
 clear ho
 obtain ⟨⟨a,b,m,⟨⟩⟩,⟨⟩⟩:=x
 show (SS OY Zm a b m).run=(OT.br (EQ m) _ _:OT Ex.Y).run
 rcases (bX (EQ m)).symm with h|h
 ·refine Eq.trans (anW (H:=avK m b ⟨0,0,0,0⟩ 256) (R:=avK m a (avK m b ⟨0,0,0,0⟩ 256) 256) h rfl rfl rfl rfl) ?_
  rw [aw6 (alk h)]
  rw [h]
  rfl
 ·exact (OT.ak h).trans (OT.ak (b:=EQ m) h).symm
def GM:bi:=(Ex.aw aet azY)
theorem ajC:aa ag 163 GM:=aCk
theorem ajB:au GM:=aq
def aBJ:Env:=ap 163 GM aiC
theorem aiD:bI ag te aBJ:=aP follows El ajC ajB
def acJ:af:=⟨ic,[],true,0,false⟩
abbrev aGr:Type:=mG
def E8:aH:=⟨[On,aB],[],false⟩
def aGp (a0:Int):OT acJ.Y:=
 let z0:ab:= {w0:=0,w1:=0,w2:=0,w3:=0}
 let z1:UInt64×ab:=((0:UInt64),z0)
 (.br (a0==(0:Int))
 (.ok ⟨E8,((({w0:=16513537,w1:=0,w2:=0,w3:=0},(9:Int),(16513537:UInt64),z1),(0:Int),()),())⟩)
 (.br (a0==(1:Int))
  (.ok ⟨E8,((({w0:=16521217,w1:=0,w2:=0,w3:=0},(11:Int),(16521217:UInt64),z1),(0:Int),()),())⟩)
  (.br (a0==(2:Int))
   (.ok ⟨E8,((({w0:=11037532056220336129,w1:=2469829653914515739,w2:=0,w3:=4611686018427387904},(32:Int),(0:UInt64),(11037532056220336127:UInt64),{w0:=10122100416058490895,w1:=15551789045973377255,w2:=8617542898466512152,w3:=679271340751763220}),(0:Int),()),())⟩)
   (.br (a0==(3:Int))
    (.ok ⟨E8,((({w0:=10108024940646105089,w1:=2469829653919213789,w2:=0,w3:=4611686018427387904},(32:Int),(0:UInt64),(10108024940646105087:UInt64),{w0:=18200867980676431887,w1:=7474641938123724515,w2:=9200329640471491984,w3:=679271340771891881}),(0:Int),()),())⟩)
    (.ok ⟨E8,(((z0,(0:Int),(0:UInt64),z1),(20:Int),()),())⟩)))))
theorem ayF (pre:aGr->Bool) (F:aGr->OT acJ.Y) (hF:∀ (x:aGr) oy,pre x=true->(F x).run=some oy->(aGp x.1.1).run=some oy):aa ag 82 (acJ.aw pre F):=
 cC aiD 82 Tryz.f82 acJ [E8] bw (λx=>aGp x.1.1) hF
abbrev Mh:Type:=iD
def aF0:Mh:=(⟨0,0,0,0⟩,0,0,0,⟨0,0,0,0⟩)
def numOf:Nat->Mh
 |0=>(⟨16513537,0,0,0⟩,9,16513537,0,⟨0,0,0,0⟩)
 |1=>(⟨16521217,0,0,0⟩,11,16521217,0,⟨0,0,0,0⟩)
 |2=>(⟨11037532056220336129,2469829653914515739,0,4611686018427387904⟩,32,0,11037532056220336127,⟨10122100416058490895,15551789045973377255,8617542898466512152,679271340751763220⟩)
 |3=>(⟨10108024940646105089,2469829653919213789,0,4611686018427387904⟩,32,0,10108024940646105087,⟨18200867980676431887,7474641938123724515,9200329640471491984,679271340771891881⟩)
 |_=>aF0
def ac (s:Int):Bool:=decide (0<=s)&&decide (s<4)
theorem b6 {s:Int} (h:ac s=true):s=0\/s=1\/s=2\/s=3:=by
 simp only [ac,av,decide_eq_true_eq] at h
 omega
theorem uA {s:Int} (h:ac s=false):(s==0)=false/\(s==1)=false/\(s==2)=false/\(s==3)=false:=by
 have hn:∀ k:Int,0<=k->k<4->(s==k)=false:=λk h0 h1=>by
  cases hb:s==k
  ·rfl
  ·have:s=k:=by simpa using hb
   subst this
   simp only [ac,aj h0,aj h1,Bool.and_self] at h
   cases h
 exact ⟨hn 0 (by decide) (by decide),hn 1 (by decide) (by decide),hn 2 (by decide) (by decide),hn 3 (by decide) (by decide)⟩
def asa (_:aGr):Bool:=true
def aGq (x:aGr):OT acJ.Y:=.br (ac x.1.1) (.ok ⟨E8,((numOf x.1.1.toNat,(0:Int),()),())⟩) (.ok ⟨E8,((aF0,(20:Int),()),())⟩)
theorem aGo:aa ag 82 (acJ.aw asa aGq):=ayF _ _ λx oy _ ho=>by
 rw [<-ho]
 clear ho
 obtain ⟨⟨s,⟨⟩⟩,⟨⟩⟩:=x
 cases hs:ac s
 ·obtain ⟨h0,h1,h2,h3⟩:=uA hs
  exact (OT.al h0).trans ((OT.al h1).trans ((OT.al h2).trans ((OT.al h3).trans (OT.al (b:=ac s) hs).symm)))
 ·rcases b6 hs with h|h|h|h
  all_goals
   have h:s=_:=h
   subst h
   rfl
def Rp:bi:=(acJ.aw asa aGq)
theorem asb:aa ag 82 Rp:=aGo
theorem ar9:au Rp:=aq
def aGW:Env:=ap 82 Rp aBJ
theorem avo:bI ag te aGW:=aP follows aiD asb ar9
def JS:af:=⟨ic,[],true,0,false⟩
abbrev asp:Type:=mG
def JR:aH:=⟨jz,[],false⟩
def aAT (a0:Int):OT JS.Y:=
 (.br (ac a0)
 (.ok ⟨JR,(((numOf (Int.toNat a0)).fst,(0:Int),()),())⟩)
 (.ok ⟨JR,(({w0:=0,w1:=0,w2:=0,w3:=0},(20:Int),()),())⟩))
theorem aso (pre:asp->Bool) (F:asp->OT JS.Y) (hF:∀ (x:asp) oy,pre x=true->(F x).run=some oy->(aAT x.1.1).run=some oy):aa ag 77 (JS.aw pre F):=
 cC avo 77 Tryz.f77 JS [JR] bw (λx=>aAT x.1.1) hF
def ahd (_:asp):Bool:=true
def aAU (x:asp):OT JS.Y:=.br (ac x.1.1) (.ok ⟨JR,(((numOf x.1.1.toNat).1,(0:Int),()),())⟩) (.ok ⟨JR,((⟨0,0,0,0⟩,(20:Int),()),())⟩)
theorem aEh:aa ag 77 (JS.aw ahd aAU):=aso _ _ λx oy _ ho=>ho
def JQ:bi:=(JS.aw ahd aAU)
theorem amu:aa ag 77 JQ:=aEh
theorem amt:au JQ:=aq
def aB2:Env:=ap 77 JQ aGW
theorem GH:bI ag te aB2:=aP follows avo amu amt
def Bh:af:=⟨[On,dY],[],true,0,false⟩
abbrev ar5:Type:=(iD×oN)×Unit
def aD9:Shape:=⟨53,[ua,zu,(4,fu),(5,aI),(6,aB)],aeg,0,true⟩
abbrev jh:Type:=aio×Mf×wg
def Bg:Shape:=⟨53,[dC,(5,aI)],[fV],0,true⟩
abbrev vr:Type:=(Unit×mJ)×tY
def aEe (a5:UInt64) (a6:Int) (c0_0:UInt64) (c0_1:UInt64) (c0_2:UInt64) (c0_3:UInt64) (c0_4:Int) (c0_5:UInt64) (c0_6:UInt64) (c0_7:UInt64) (c0_8:UInt64) (c0_9:UInt64) (c0_10:UInt64) (c1:ao) (c2:ao):OT (Sum jh aT):=
 let z0:UInt64:=List.getD c1 (Int.toNat a6+0) (0:UInt64)
 (.br (decide ((0:Int)<=a6))
 (gd [inB a6 4,decide (Int.toNat a6+0<List.length c1),vM ((a5,z0,c0_5,()),()),inR (a6-(1:Int))] (.ok (.inl (((),(),(),W8 a5 z0 c0_5,a6-(1:Int),()),(c0_0,c0_1,c0_2,c0_3,c0_4,c0_5,c0_6,c0_7,c0_8,c0_9,c0_10,()),c1,c2,()))))
 (.ok (.inr ⟨(.exit 0,Bg),(((),a5,()),c2,())⟩)))
def Rn (s:jh):OT (Sum jh aT):=aEe s.1.2.2.2.1 s.1.2.2.2.2.1 s.2.1.1 s.2.1.2.1 s.2.1.2.2.1 s.2.1.2.2.2.1 s.2.1.2.2.2.2.1 s.2.1.2.2.2.2.2.1 s.2.1.2.2.2.2.2.2.1 s.2.1.2.2.2.2.2.2.2.1 s.2.1.2.2.2.2.2.2.2.2.1 s.2.1.2.2.2.2.2.2.2.2.2.1 s.2.1.2.2.2.2.2.2.2.2.2.2.1 s.2.2.1 s.2.2.2.1
def ar4 (g0_0:jh->vr) (s:jh):OT aT:=(.ok ⟨(.exit 0,Bg),g0_0 s⟩)
def aD8:Shape:=⟨53,[ua,zu,(4,fu)],aeg,0,true⟩
abbrev jg:Type:=nC×Mf×wg
def tn:Shape:=⟨53,[dC],[fV],0,true⟩
abbrev DI:Type:=bQ×tY
def aEd (c0_0:UInt64) (c0_1:UInt64) (c0_2:UInt64) (c0_3:UInt64) (c0_4:Int) (c0_5:UInt64) (c0_6:UInt64) (c0_7:UInt64) (c0_8:UInt64) (c0_9:UInt64) (c0_10:UInt64) (c1:ao) (c2:ao):OT (Sum jg aT):=
 let z0:Nat:=List.length c1
 let z1:Bool:=decide (4<=z0)
 let z2:ab×Bool:=ka {w0:=List.getD c1 0 0,w1:=List.getD c1 1 0,w2:=List.getD c1 2 0,w3:=List.getD c1 3 0} {w0:=c0_0,w1:=c0_1,w2:=c0_2,w3:=c0_3}
 let z3:=z2.fst
 (gd [z1] (.br (z2.snd)
 (gd [z1,decide ((4/1:Nat)+0<=List.length c2)] (.ok (.inr ⟨(.ret,tn),(((),()),lay c2 c1 4 (0:UInt64),())⟩)))
 (gd [decide ((4/1:Nat)+0<=z0)] (.ok (.inl (((),(),(),()),(c0_0,c0_1,c0_2,c0_3,c0_4,c0_5,c0_6,c0_7,c0_8,c0_9,c0_10,()),List.set (List.set (List.set (List.set c1 0 z3.w0) 1 z3.w1) 2 z3.w2) 3 z3.w3,c2,()))))))
def Rm (s:jg):OT (Sum jg aT):=aEd s.2.1.1 s.2.1.2.1 s.2.1.2.2.1 s.2.1.2.2.2.1 s.2.1.2.2.2.2.1 s.2.1.2.2.2.2.2.1 s.2.1.2.2.2.2.2.2.1 s.2.1.2.2.2.2.2.2.2.1 s.2.1.2.2.2.2.2.2.2.2.1 s.2.1.2.2.2.2.2.2.2.2.2.1 s.2.1.2.2.2.2.2.2.2.2.2.2.1 s.2.2.1 s.2.2.2.1
def ar3 (g2_r:jg->DI) (s:jg):OT aT:=(.ok ⟨(.ret,tn),g2_r s⟩)
def qt:aH:=⟨fG,[],false⟩
section
variable (ok0:jh->Bool) (g0_0:jh->vr) (ok2:jg->Bool) (g2_r:jg->DI)
def NB (a0:iD) (a1:ab):OT Bh.Y:=
 let z0:Bool:= !a0.snd.snd.fst==(0:UInt64)
 let z1:(UInt64×UInt64×UInt64×UInt64×Int×aBo)×ao×ao×PUnit:=((a0.fst.w0,a0.fst.w1,a0.fst.w2,a0.fst.w3,a0.snd.fst,a0.snd.snd.fst,a0.snd.snd.snd.fst,a0.snd.snd.snd.snd.w0,a0.snd.snd.snd.snd.w1,a0.snd.snd.snd.snd.w2,a0.snd.snd.snd.snd.w3,()),[a1.w0,a1.w1,a1.w2,a1.w3],[(0:UInt64),(0:UInt64),(0:UInt64),(0:UInt64)],())
 let z2:jh:=(((),(),(),(0:UInt64),(3:Int),()),z1)
 let z3:vr:=g0_0 z2
 let z4:=z3.snd.fst
 let z5:ao:=List.set (List.set (List.set (List.set z4 0 z3.fst.snd.fst) 1 (0:UInt64)) 2 (0:UInt64)) 3 (0:UInt64)
 let z6:jg:=(((),(),(),()),z1)
 let z7:=(g2_r z6).snd.fst
 (.br (z0)
 (.br (a1.w1|||a1.w2|||a1.w3==(0:UInt64))
  (gd [z0] (.ok ⟨qt,(({w0:=a1.w0%a0.snd.snd.fst,w1:=0,w2:=0,w3:=0},()),())⟩))
  (gd [ok0 z2,decide ((4/1:Nat)+0<=List.length z4),decide (4<=List.length z5)] (.ok ⟨qt,(({w0:=List.getD z5 0 0,w1:=List.getD z5 1 0,w2:=List.getD z5 2 0,w3:=List.getD z5 3 0},()),())⟩)))
 (gd [ok2 z6,decide (4<=List.length z7)] (.ok ⟨qt,(({w0:=List.getD z7 0 0,w1:=List.getD z7 1 0,w2:=List.getD z7 2 0,w3:=List.getD z7 3 0},()),())⟩)))
theorem ar2 (h0:aY Rn ok0 (ar4 g0_0)) (h2:aY Rm ok2 (ar3 g2_r)) (pre:ar5->Bool) (F:ar5->OT Bh.Y) (hF:∀ (x:ar5) oy,pre x=true->(F x).run=some oy->(NB ok0 g0_0 ok2 g2_r x.1.1 x.1.2.1).run=some oy):aa ag 117 (Bh.aw pre F):=
 cC GH 117 Tryz.f117 Bh [qt] (js GH 2 aD8 [] (some tn) none Rm bw h2 (js GH 0 aD9 [(0,Bg)] none none Rn bw h0 bw)) (λx=>NB ok0 g0_0 ok2 g2_r x.1.1 x.1.2.1) hF
end
def kJ (n:Mh):Bool:=decide (n=numOf 0)||(decide (n=numOf 1)||(decide (n=numOf 2)||decide (n=numOf 3)))
theorem xN {n:Mh} (h:kJ n=true):n=numOf 0\/n=numOf 1\/n=numOf 2\/n=numOf 3:=by
 simpa [kJ] using h
theorem iW {s:Int} (h:ac s=true):kJ (numOf s.toNat)=true:=by
 rcases b6 h with rfl|rfl|rfl|rfl<;>decide+kernel
def aFO (c:ao) (m:UInt64):UInt64:=upto (λk r=>W8 r (c.getD (3-k) 0) m) 0 4
theorem lX {m:UInt64} (h:gr m=true):0<m.toNat:=by
 rcases eu h with rfl|rfl<;>decide
theorem afW {a:ab} {m:UInt64} (h:gr m=true):aFO (lst a) m=UInt64.ofNat (a.nat%m.toNat):=by
 have hm:=lX h
 rw [<-kE,dg,bj (b:=2^64) (Nat.lt_trans (Nat.mod_lt _ hm) m.toNat_lt)]
 show (W8 (W8 (W8 (W8 0 a.w3 m) a.w2 m) a.w1 m) a.w0 m).toNat=_
 rw [qF hm,qF hm,qF hm,qF hm,Qs _ a.w2.toNat,Qs _ a.w1.toNat,Qs _ a.w0.toNat,show (0:UInt64).toNat=0 from rfl]
 congr 1
 unfold Sx.ab.nat
 omega
def Bf (s:jh):Bool:=decide (s.1.2.2.2.1=0/\s.1.2.2.2.2.1=3/\s.2.2.1.length=4)&&gr s.2.1.2.2.2.2.2.1
def Rl (s:jh):vr:=(((),aFO s.2.2.1 s.2.1.2.2.2.2.2.1,()),s.2.2.2.1,())
theorem aEc:aY Rn Bf (ar4 Rl):=by
 rintro ⟨⟨⟨⟩,⟨⟩,⟨⟩,r,i,⟨⟩⟩,⟨⟨x0,x1,x2,x3,x4,sm,x6,x7,x8,x9,x10,⟨⟩⟩,c1,c2,⟨⟩⟩⟩ h
 simp only [Bf,av,decide_eq_true_eq] at h
 obtain ⟨⟨rfl,rfl,hl⟩,hs⟩:=h
 have hm:=lX hs
 have:=(aW (T:=Rn) (λk r=>((((),(),(),r,3-(k:Int),()),(x0,x1,x2,x3,x4,sm,x6,x7,x8,x9,x10,()),c1,c2,()):jh)) (λk r=>W8 r (c1.getD (3-k) 0) sm)
  (λr=>(⟨(.exit 0,Bg),(((),r,()),c2,())⟩:aT)) 4 0 (λ_ r=>r.toNat<sm.toNat) hm (λk r hk hr=>⟨?_,?_⟩) (λr hr=> ?_)).1
 ·obtain ⟨m,hm⟩:=this
  exact ⟨m,_,hm,rfl⟩
 ·have e1:(3-(k:Int)).toNat=3-k:=by omega
  have e2:(3:Int)-(k:Int)-1=3-((k+1:Nat):Int):=by omega
  refine (OT.ak (aj (by dsimp only;omega))).trans ((ae ?_).trans ?_)
  ·simp only [e1,Nat.add_zero,hl,ax,aA,aC,av]
   refine ⟨aR (by omega),aj (by omega),?_,aL (by omega)⟩
   simp only [vM,av]
   exact ⟨hs,aj (UInt64.lt_iff_toNat_lt.2 hr)⟩
  ·simp only [OT.gb,e1,e2,Nat.add_zero]
 ·rw [qF hm]
  exact Nat.mod_lt _ hm
 ·exact OT.al (bn (by dsimp only;omega))
def aH6 (s:jg):ab:=⟨s.2.1.1,s.2.1.2.1,s.2.1.2.2.1,s.2.1.2.2.2.1⟩
def Gq (s:jg):Bool:=decide (s.2.2.1.length=4/\s.2.2.2.1.length=4/\0<(aH6 s).nat)
def Rk (s:jg):DI:=(((),()),lst (ofN ((elemOf s.2.2.1).nat%(aH6 s).nat)),())
theorem amh {x0 x1 x2 x3 x5 x6 x7 x8 x9 x10:UInt64} {x4:Int} {c2:List UInt64} (hc:c2.length=4) (hm:0<(ab.mk x0 x1 x2 x3).nat):∀ (n:Nat) (a:ab),a.nat=n->
 ∃ m,cx Rm m (((),(),(),()),(x0,x1,x2,x3,x4,x5,x6,x7,x8,x9,x10,()),lst a,c2,())=some ⟨(.ret,tn),(((),()),lst (ofN (a.nat%(ab.mk x0 x1 x2 x3).nat)),())⟩:=by
 intro n
 induction n using Nat.strongRecOn with
 |_ n ih=>
  intro a hn
  cases hb:Nat.blt a.nat (ab.mk x0 x1 x2 x3).nat
  ·have hle:(ab.mk x0 x1 x2 x3).nat<=a.nat:=by
    rcases Nat.lt_or_ge a.nat (ab.mk x0 x1 x2 x3).nat with h|h
    ·have:Nat.blt a.nat (ab.mk x0 x1 x2 x3).nat=true:=lb h
     rw [this] at hb;cases hb
    ·exact h
   have hd:=o4 hle
   obtain ⟨m,hm2⟩:=ih (a.nat-(ab.mk x0 x1 x2 x3).nat) (by omega) (ka a ⟨x0,x1,x2,x3⟩).1 hd
   rw [hd,<-Nat.mod_eq_sub_mod hle] at hm2
   refine ⟨m+1,aS ?_ hm2⟩
   refine (ae ?_).trans ((OT.al hb).trans ((ae ?_).trans rfl))
   ·rfl
   ·rfl
  ·have hlt:=db hb
   rw [bj hlt,AG]
   refine ⟨1,aO ?_⟩
   refine (ae ?_).trans ((OT.ak hb).trans ((ae ?_).trans ?_))
   ·rfl
   ·simp only [hc,ax,aA,aC,av]
    exact ⟨rfl,rfl⟩
   ·show some (Sum.inr (⟨(.ret,tn),(((),()),lay c2 (lst a) 4 0,())⟩:aT))=_
    rw [Vt hc (oc a)]
theorem aEb:aY Rm Gq (ar3 Rk):=by
 rintro ⟨⟨⟨⟩,⟨⟩,⟨⟩,⟨⟩⟩,⟨⟨x0,x1,x2,x3,x4,x5,x6,x7,x8,x9,x10,⟨⟩⟩,c1,c2,⟨⟩⟩⟩ h
 have h':=bh h
 dsimp only [aH6] at h'
 obtain ⟨h1,h2,h3⟩:=h'
 obtain ⟨m,hm⟩:=amh (x4:=x4) (x5:=x5) (x6:=x6) (x7:=x7) (x8:=x8) (x9:=x9) (x10:=x10) h2 h3 _ (elemOf c1) rfl
 rw [bY h1] at hm
 exact ⟨m,_,hm,rfl⟩
def gQ (x:ar5):Bool:=kJ x.1.1
def aAN (x:ar5):OT Bh.Y:=.ok ⟨qt,((ofN (x.1.2.1.nat%x.1.1.1.nat),()),())⟩
theorem Ia {n:Nat} (h:n<18446744073709551616):ofN n=⟨UInt64.ofNat n,0,0,0⟩:=by
 refine aqf (k:=0) ?_
 rw [dg,bj (by omega)]
 simp
theorem JK {n:Mh} {a:ab} {m:UInt64} (h1:n.1=⟨m,0,0,0⟩) (h2:n.2.2.1=m) (hs:gr m=true):(NB Bf Rl Gq Rk n a).run=some ⟨qt,((ofN (a.nat%n.1.nat),()),())⟩:=by
 have hm:=lX hs
 have hn:n.1.nat=m.toNat:=by rw [h1];show m.toNat+_*(0+_*(0+_*0))=_;omega
 have hz:(!(n.2.2.1==0))=true:=by
  rw [h2]
  rcases eu hs with rfl|rfl<;>rfl
 have hlt:a.nat%m.toNat<18446744073709551616:=Nat.lt_trans (Nat.mod_lt _ hm) m.toNat_lt
 rw [hn,Ia hlt]
 unfold NB
 refine (OT.ak hz).trans ?_
 cases hb:(a.w1|||a.w2|||a.w3==0)
 ·refine (OT.al rfl).trans ((ae ?_).trans ?_)
  ·simp only [ax,aA,aC,av]
   refine ⟨?_,rfl,rfl⟩
   show (decide _&&gr n.2.2.1)=true
   rw [h2,hs,aC]
   exact aj ⟨rfl,rfl,rfl⟩
  ·show some (⟨qt,((⟨aFO (lst a) n.2.2.1,0,0,0⟩,()),())⟩:Bh.Y)=_
   rw [h2,afW hs]
 ·refine (OT.ak rfl).trans ((ae ?_).trans ?_)
  ·simp only [hz,ax,aA,aC]
  ·have hw:a.w1=0/\a.w2=0/\a.w3=0:=by
    have:a.w1|||a.w2|||a.w3=0:=by simpa using hb
    simpa [UInt64.or_eq_zero_iff,and_assoc] using this
   have ha:a.nat=a.w0.toNat:=by
    unfold Sx.ab.nat
    rw [hw.1,hw.2.1,hw.2.2]
    show _+_*(0+_*(0+_*0))=_
    omega
   show some (⟨qt,((⟨a.w0%n.2.2.1,0,0,0⟩,()),())⟩:Bh.Y)=_
   have e:a.w0%n.2.2.1=UInt64.ofNat (a.nat%m.toNat):=by
    rw [h2,ha,<-kE,UInt64.toNat_mod,dg]
    exact (bj (by rw [<-ha];omega)).symm
   rw [e]
theorem NA {n:Mh} {a:ab} (h2:n.2.2.1=0) (hs:0<n.1.nat):(NB Bf Rl Gq Rk n a).run=some ⟨qt,((ofN (a.nat%n.1.nat),()),())⟩:=by
 unfold NB
 refine (OT.al (by rw [h2];rfl)).trans ((ae ?_).trans ?_)
 ·simp only [ax,aA,aC,av]
  exact ⟨aj ⟨rfl,rfl,hs⟩,rfl⟩
 ·rfl
theorem aIw:0<(numOf 2).1.nat:=by decide+kernel
theorem aIv:0<(numOf 3).1.nat:=by decide+kernel
theorem aEa:aa ag 117 (Bh.aw gQ aAN):=ar2 Bf Rl Gq Rk aEc aEb _ _ λx oy hp ho=>by
 rw [<-ho]
 clear ho
 obtain ⟨⟨n,a,⟨⟩⟩,⟨⟩⟩:=x
 have hp':kJ n=true:=hp
 rcases xN hp' with rfl|rfl|rfl|rfl
 ·exact JK (m:=16513537) rfl rfl rfl
 ·exact JK (m:=16521217) rfl rfl rfl
 ·exact NA rfl aIw
 ·exact NA rfl aIv
def JJ:bi:=(Bh.aw gQ aAN)
theorem ami:aa ag 117 JJ:=aEa
theorem amg:au JJ:=aq
def aBZ:Env:=ap 117 JJ aB2
theorem ai7:bI ag te aBZ:=aP follows GH ami amg
def yP:af:=⟨[On,dY,dY],[],true,0,false⟩
abbrev WX:Type:=(iD×ru)×Unit
def RD:aH:=⟨fG,[],false⟩
def asH (a0:iD) (a1:ab) (a2:ab):OT yP.Y:=
 let z0:Nat:=ab.nat a0.fst
 let z1:ab:=(SJ (ofN (ab.nat a1%z0)) (ofN (ab.nat a2%z0))).fst
 (gd [gQ ((a0,a1,()),()),gQ ((a0,a2,()),()),gQ ((a0,z1,()),())] (.ok ⟨RD,((ofN (ab.nat z1%z0),()),())⟩))
theorem amK (pre:WX->Bool) (F:WX->OT yP.Y) (hF:∀ (x:WX) oy,pre x=true->(F x).run=some oy->(asH x.1.1 x.1.2.1 x.1.2.2.1).run=some oy):aa ag 83 (yP.aw pre F):=
 cC ai7 83 Tryz.f83 yP [RD] bw (λx=>asH x.1.1 x.1.2.1 x.1.2.2.1) hF
theorem AJ {n:Mh} (h:kJ n=true):0<n.1.nat/\n.1.nat<57896044618658097711785492504343953926634992332820282019728792003956564819968:=by
 rcases xN h with rfl|rfl|rfl|rfl
 ·exact ⟨by decide+kernel,by decide+kernel⟩
 ·exact ⟨by decide+kernel,by decide+kernel⟩
 ·exact ⟨by decide+kernel,by decide+kernel⟩
 ·exact ⟨by decide+kernel,by decide+kernel⟩
def pS (s:Int):Nat:=(numOf s.toNat).1.nat
theorem gU {s:Int} (h:ac s=true):0<pS s/\pS s<57896044618658097711785492504343953926634992332820282019728792003956564819968:=AJ (iW h)
def fp (p:Nat) (a b:ab):ab:=ofN ((a.nat+b.nat)%p)
def n9 (p:Nat) (a:ab):ab:=ofN ((p-a.nat%p)%p)
def aQ (p:Nat) (a b:ab):ab:=ofN (a.nat*b.nat%p)
theorem cL {p n:Nat} (h:0<p/\p<57896044618658097711785492504343953926634992332820282019728792003956564819968):(ofN (n%p)).nat=n%p:=by
 have:=Nat.mod_lt n h.1
 exact nQ (by omega)
theorem aE6 {p:Nat} (h:0<p/\p<57896044618658097711785492504343953926634992332820282019728792003956564819968) (a b:ab):ofN ((SJ (ofN (a.nat%p)) (ofN (b.nat%p))).1.nat%p)=fp p a b:=by
 have ha:=Nat.mod_lt a.nat h.1
 have hb:=Nat.mod_lt b.nat h.1
 have e:(SJ (ofN (a.nat%p)) (ofN (b.nat%p))).1.nat=a.nat%p+b.nat%p:=by
  show (ofN _).nat=_
  rw [cL h,cL h]
  exact nQ (by omega)
 unfold fp
 rw [e,<-Nat.add_mod]
def J2 (x:WX):Bool:=kJ x.1.1
def adg (x:WX):OT yP.Y:=.ok ⟨RD,((fp x.1.1.1.nat x.1.2.1 x.1.2.2.1,()),())⟩
theorem ayV:aa ag 83 (yP.aw J2 adg):=amK _ _ λx oy hp ho=>by
 rw [<-ho]
 clear ho
 obtain ⟨⟨n,a,b,⟨⟩⟩,⟨⟩⟩:=x
 have hp':kJ n=true:=hp
 refine (ae ?_).trans ?_
 ·simp only [ax,aA,aC,av]
  exact ⟨hp',hp',hp'⟩
 ·simp only [adg,aE6 (AJ hp')]
def DY:bi:=(yP.aw J2 adg)
theorem adf:aa ag 83 DY:=ayV
theorem ade:au DY:=aq
def avB:Env:=ap 83 DY aBZ
theorem Y9:bI ag te avB:=aP follows ai7 adf ade
def yM:af:=⟨[On,dY],[],true,0,false⟩
abbrev WH:Type:=(iD×oN)×Unit
def Rs:aH:=⟨fG,[],false⟩
def asg (a0:iD) (a1:ab):OT yM.Y:=
 let z0:Nat:=ab.nat a0.fst
 let z1:ab:=(ka a0.fst (ofN (ab.nat a1%z0))).fst
 (gd [gQ ((a0,a1,()),()),gQ ((a0,z1,()),())] (.ok ⟨Rs,((ofN (ab.nat z1%z0),()),())⟩))
theorem amp (pre:WH->Bool) (F:WH->OT yM.Y) (hF:∀ (x:WH) oy,pre x=true->(F x).run=some oy->(asg x.1.1 x.1.2.1).run=some oy):aa ag 116 (yM.aw pre F):=
 cC Y9 116 Tryz.f116 yM [Rs] bw (λx=>asg x.1.1 x.1.2.1) hF
theorem aDN {m:ab} (h:0<m.nat/\m.nat<57896044618658097711785492504343953926634992332820282019728792003956564819968) (a:ab):ofN ((ka m (ofN (a.nat%m.nat))).1.nat%m.nat)=n9 m.nat a:=by
 have ha:=Nat.mod_lt a.nat h.1
 have e:=cL (n:=a.nat) h
 have e2:(ka m (ofN (a.nat%m.nat))).1.nat=m.nat-a.nat%m.nat:=by
  rw [o4 (by rw [e];omega),e]
 unfold n9
 rw [e2]
def Bm (x:WH):Bool:=kJ x.1.1
def acP (x:WH):OT yM.Y:=.ok ⟨Rs,((n9 x.1.1.1.nat x.1.2.1,()),())⟩
theorem ayH:aa ag 116 (yM.aw Bm acP):=amp _ _ λx oy hp ho=>by
 rw [<-ho]
 clear ho
 obtain ⟨⟨n,a,⟨⟩⟩,⟨⟩⟩:=x
 have hp':kJ n=true:=hp
 refine (ae ?_).trans ?_
 ·simp only [ax,aA,aC,av]
  exact ⟨hp',hp'⟩
 ·simp only [acP,aDN (AJ hp')]
def DL:bi:=(yM.aw Bm acP)
theorem acO:aa ag 116 DL:=ayH
theorem acN:au DL:=aq
def avr:Env:=ap 116 DL avB
theorem Y4:bI ag te avr:=aP follows Y9 acO acN
def wB:af:=⟨Lb,[],true,0,false⟩
abbrev adb:Type:=K6
def DX:aH:=⟨fG,[],false⟩
def aAZ (a0:Int) (a1:ab) (a2:ab):OT wB.Y:=
 let z0:iD:=numOf (Int.toNat a0)
 (.br (ac a0)
 (gd [J2 ((z0,a1,a2,()),())] (.ok ⟨DX,((fp (ab.nat z0.fst) a1 a2,()),())⟩))
 (.ok ⟨DX,(({w0:=0,w1:=0,w2:=0,w3:=0},()),())⟩))
theorem asG (pre:adb->Bool) (F:adb->OT wB.Y) (hF:∀ (x:adb) oy,pre x=true->(F x).run=some oy->(aAZ x.1.1 x.1.2.1 x.1.2.2.1).run=some oy):aa ag 29 (wB.aw pre F):=
 cC Y4 29 Tryz.f29 wB [DX] bw (λx=>aAZ x.1.1 x.1.2.1 x.1.2.2.1) hF
def ahk (_:adb):Bool:=true
def aA0 (x:adb):OT wB.Y:=.br (ac x.1.1) (.ok ⟨DX,((fp (pS x.1.1) x.1.2.1 x.1.2.2.1,()),())⟩) (.ok ⟨DX,((⟨0,0,0,0⟩,()),())⟩)
theorem asF:aa ag 29 (wB.aw ahk aA0):=asG _ _ λx oy hp ho=>by
 rw [<-ho]
 clear ho
 obtain ⟨⟨s,a,b,⟨⟩⟩,⟨⟩⟩:=x
 cases hs:ac s
 ·exact (OT.al hs).trans (OT.al (b:=ac s) hs).symm
 ·refine (OT.ak hs).trans ((ae ?_).trans (OT.ak (b:=ac s) hs).symm)
  simp only [ax,aA,aC]
  exact iW hs
def J1:bi:=(wB.aw ahk aA0)
theorem amJ:aa ag 29 J1:=asF
theorem amI:au J1:=aq
def aB5:Env:=ap 29 J1 avr
theorem ajc:bI ag te aB5:=aP follows Y4 amJ amI
def wx:af:=⟨Om,[],true,0,false⟩
abbrev acM:Type:=Oj
def DK:aH:=⟨fG,[],false⟩
def aAO (a0:Int) (a1:ab):OT wx.Y:=
 let z0:iD:=numOf (Int.toNat a0)
 (.br (ac a0)
 (gd [Bm ((z0,a1,()),())] (.ok ⟨DK,((n9 (ab.nat z0.fst) a1,()),())⟩))
 (.ok ⟨DK,(({w0:=0,w1:=0,w2:=0,w3:=0},()),())⟩))
theorem asf (pre:acM->Bool) (F:acM->OT wx.Y) (hF:∀ (x:acM) oy,pre x=true->(F x).run=some oy->(aAO x.1.1 x.1.2.1).run=some oy):aa ag 67 (wx.aw pre F):=
 cC ajc 67 Tryz.f67 wx [DK] bw (λx=>aAO x.1.1 x.1.2.1) hF
def aha (_:acM):Bool:=true
def aAP (x:acM):OT wx.Y:=.br (ac x.1.1) (.ok ⟨DK,((n9 (pS x.1.1) x.1.2.1,()),())⟩) (.ok ⟨DK,((⟨0,0,0,0⟩,()),())⟩)
theorem ase:aa ag 67 (wx.aw aha aAP):=asf _ _ λx oy hp ho=>by
 rw [<-ho]
 clear ho
 obtain ⟨⟨s,a,⟨⟩⟩,⟨⟩⟩:=x
 cases hs:ac s
 ·exact (OT.al hs).trans (OT.al (b:=ac s) hs).symm
 ·refine (OT.ak hs).trans ((ae ?_).trans (OT.ak (b:=ac s) hs).symm)
  simp only [ax,aA,aC]
  exact iW hs
def JN:bi:=(wx.aw aha aAP)
theorem amo:aa ag 67 JN:=ase
theorem amn:au JN:=aq
def aB0:Env:=ap 67 JN aB5
theorem ai8:bI ag te aB0:=aP follows ajc amo amn
def ww:af:=⟨Lb,[],true,0,false⟩
abbrev acD:Type:=K6
def tb:aH:=⟨fG,[],false⟩
def aAL (a0:Int) (a1:ab) (a2:ab):OT ww.Y:=
 let z0:Bool:=ac a0
 let z1:Nat:=pS a0
 let z2:ab:= {w0:=0,w1:=0,w2:=0,w3:=0}
 (.br (z0)
 (.br (z0)
  (.ok ⟨tb,((fp z1 a1 (n9 z1 a2),()),())⟩)
  (.ok ⟨tb,((z2,()),())⟩))
 (.br (z0)
  (.ok ⟨tb,((fp z1 a1 z2,()),())⟩)
  (.ok ⟨tb,((z2,()),())⟩)))
theorem arY (pre:acD->Bool) (F:acD->OT ww.Y) (hF:∀ (x:acD) oy,pre x=true->(F x).run=some oy->(aAL x.1.1 x.1.2.1 x.1.2.2.1).run=some oy):aa ag 91 (ww.aw pre F):=
 cC ai8 91 Tryz.f91 ww [tb] bw (λx=>aAL x.1.1 x.1.2.1 x.1.2.2.1) hF
def gZ (p:Nat) (a b:ab):ab:=fp p a (n9 p b)
def ag3 (_:acD):Bool:=true
def aAM (x:acD):OT ww.Y:=.br (ac x.1.1) (.ok ⟨tb,((gZ (pS x.1.1) x.1.2.1 x.1.2.2.1,()),())⟩) (.ok ⟨tb,((⟨0,0,0,0⟩,()),())⟩)
theorem arX:aa ag 91 (ww.aw ag3 aAM):=arY _ _ λx oy hp ho=>by
 rw [<-ho]
 clear ho
 obtain ⟨⟨s,a,b,⟨⟩⟩,⟨⟩⟩:=x
 cases hs:ac s
 ·exact (OT.al hs).trans ((OT.al hs).trans (OT.al (b:=ac s) hs).symm)
 ·exact (OT.ak hs).trans ((OT.ak hs).trans (OT.ak (b:=ac s) hs).symm)
def JC:bi:=(ww.aw ag3 aAM)
theorem ama:aa ag 91 JC:=arX
theorem al9:au JC:=aq
def aBY:Env:=ap 91 JC aB0
theorem SD:bI ag te aBY:=aP follows ai8 ama al9
def l6 (n:Nat):List UInt64:= [UInt64.ofNat n,UInt64.ofNat (n/18446744073709551616),UInt64.ofNat (n/18446744073709551616/18446744073709551616),UInt64.ofNat (n/18446744073709551616/18446744073709551616/18446744073709551616),
 UInt64.ofNat (n/18446744073709551616/18446744073709551616/18446744073709551616/18446744073709551616),UInt64.ofNat (n/18446744073709551616/18446744073709551616/18446744073709551616/18446744073709551616/18446744073709551616)]
def v6 (l:List UInt64):Nat:=(l.getD 0 0).toNat+18446744073709551616*((l.getD 1 0).toNat+18446744073709551616*((l.getD 2 0).toNat+18446744073709551616*((l.getD 3 0).toNat+18446744073709551616*((l.getD 4 0).toNat+18446744073709551616*(l.getD 5 0).toNat))))
theorem iy {m:Nat} {x:UInt64} (hm:m%18446744073709551616=x.toNat):UInt64.ofNat m=x:=by
 rw [<-kE,dg]
 exact hm
theorem aHP {n:Nat} {a b c d e:UInt64} {k:Nat} {f:UInt64} (h:n=a.toNat+18446744073709551616*(b.toNat+18446744073709551616*(c.toNat+18446744073709551616*(d.toNat+18446744073709551616*(e.toNat+18446744073709551616*k))))) (hf:k%18446744073709551616=f.toNat):l6 n= [a,b,c,d,e,f]:=by
 obtain ⟨h1,h0⟩:=div_eq a.toNat_lt h
 obtain ⟨h2,h3⟩:=div_eq b.toNat_lt h1
 obtain ⟨h4,h5⟩:=div_eq c.toNat_lt h2
 obtain ⟨h6,h7⟩:=div_eq d.toNat_lt h4
 obtain ⟨h8,h9⟩:=div_eq e.toNat_lt h6
 unfold l6
 rw [iy (x:=a) h0,iy (x:=b) h3,iy (x:=c) h5,iy (x:=d) h7,iy (x:=e) h9,iy (x:=f) (by rw [h8];exact hf)]
theorem aq0 (n:Nat):(l6 n).length=6:=rfl
def aFo (t a x c:UInt64):UInt64:=zn t (zn (a*x) c 0) 0
def Ca (t a x c:UInt64):UInt64:=avO a x+FL (a*x) c 0+FL t (zn (a*x) c 0) 0
theorem aE7 {t P p h c l k1 r k2 W:Nat} (hP:P=p+W*h) (h1:p+c=l+W*k1) (h2:t+l=r+W*k2):t+P+c=r+W*(h+k1+k2):=by
 rw [Nat.mul_add,Nat.mul_add]
 omega
theorem auB {t P c r q W:Nat} (hW:0<W) (ht:t<=W-1) (hc:c<=W-1) (hP:P<=(W-1)*(W-1)) (h:t+P+c=r+W*q):q<W:=by
 obtain ⟨V,rfl⟩:∃ V,W=V+1:=⟨W-1,by omega⟩
 rw [Nat.add_sub_cancel] at*
 refine Nat.lt_of_not_le λhq=> ?_
 have h1:(V+1)*(V+1)<=(V+1)*q:=Nat.mul_le_mul_left _ hq
 have h2:(V+1)*(V+1)=V*V+V+V+1:=by rw [Nat.add_mul,Nat.mul_add,Nat.one_mul,Nat.mul_one];omega
 omega
theorem axB (a x:UInt64):(avO a x).toNat=a.toNat*x.toNat/18446744073709551616:=by
 have ha:=a.toNat_lt
 have hx:=x.toNat_lt
 have:a.toNat*x.toNat/18446744073709551616<18446744073709551616:=by
  rw [Nat.div_lt_iff_lt_mul (by omega)]
  exact Nat.mul_lt_mul'' ha hx
 unfold avO
 rw [dg,bj this]
theorem GD (t a x c:UInt64):t.toNat+a.toNat*x.toNat+c.toNat=(aFo t a x c).toNat+18446744073709551616*(Ca t a x c).toNat:=by
 have hP:a.toNat*x.toNat=(a*x).toNat+18446744073709551616*(avO a x).toNat:=by
  rw [axB,UInt64.toNat_mul]
  exact (Nat.mod_add_div _ _).symm
 have h1:=mF (a*x) c 0
 have h2:=mF t (zn (a*x) c 0) 0
 rw [show (0:UInt64).toNat=0 from rfl,Nat.add_zero] at h1 h2
 have key:=aE7 hP h1 h2
 have hb:=auB (W:=18446744073709551616) (by omega) (Nat.le_sub_one_of_lt t.toNat_lt) (Nat.le_sub_one_of_lt c.toNat_lt) (Nat.mul_le_mul (Nat.le_sub_one_of_lt a.toNat_lt) (Nat.le_sub_one_of_lt x.toNat_lt)) key
 have e:(Ca t a x c).toNat=(avO a x).toNat+(FL (a*x) c 0).toNat+(FL t (zn (a*x) c 0) 0).toNat:=by
  unfold Ca
  rw [UInt64.toNat_add,UInt64.toNat_add,Nat.mod_add_mod]
  exact bj hb
 rw [e]
 exact key
theorem GF {t a x c s k T A R W:Nat} (h1:t+a*x+c=s+W*k) (h2:T+A*x+k=R):(t+W*T)+(a+W*A)*x+c=s+W*R:=by
 rw [Nat.add_mul,Nat.mul_assoc,<-h2,Nat.mul_add,Nat.mul_add]
 omega
def aIr (t0 t1 t2 t3 t4 t5:UInt64) (a:ab) (x:UInt64):List UInt64:=
 let k0:=Ca t0 a.w0 x 0
 let k1:=Ca t1 a.w1 x k0
 let k2:=Ca t2 a.w2 x k1
 let k3:=Ca t3 a.w3 x k2
 [aFo t0 a.w0 x 0,aFo t1 a.w1 x k0,aFo t2 a.w2 x k1,aFo t3 a.w3 x k2,zn t4 k3 0,t5+FL t4 k3 0]
theorem aE8 (t0 t1 t2 t3 t4 t5:UInt64) (a:ab) (x:UInt64):aIr t0 t1 t2 t3 t4 t5 a x=l6 (v6 [t0,t1,t2,t3,t4,t5]+a.nat*x.toNat):=by
 have h4:=mF t4 (Ca t3 a.w3 x (Ca t2 a.w2 x (Ca t1 a.w1 x (Ca t0 a.w0 x 0)))) 0
 rw [show (0:UInt64).toNat=0 from rfl,Nat.add_zero] at h4
 have h5:(t4.toNat+18446744073709551616*t5.toNat)+0*x.toNat+(Ca t3 a.w3 x (Ca t2 a.w2 x (Ca t1 a.w1 x (Ca t0 a.w0 x 0)))).toNat=
  (zn t4 (Ca t3 a.w3 x (Ca t2 a.w2 x (Ca t1 a.w1 x (Ca t0 a.w0 x 0)))) 0).toNat+18446744073709551616*(t5.toNat+(FL t4 (Ca t3 a.w3 x (Ca t2 a.w2 x (Ca t1 a.w1 x (Ca t0 a.w0 x 0)))) 0).toNat):=by
  rw [Nat.zero_mul,Nat.mul_add]
  omega
 have h:=GF (GD t0 a.w0 x 0) (GF (GD t1 a.w1 x _) (GF (GD t2 a.w2 x _) (GF (GD t3 a.w3 x _) h5)))
 rw [show (0:UInt64).toNat=0 from rfl,Nat.add_zero,Nat.mul_zero,Nat.add_zero] at h
 exact (aHP (f:=t5+FL t4 (Ca t3 a.w3 x (Ca t2 a.w2 x (Ca t1 a.w1 x (Ca t0 a.w0 x 0)))) 0) h (by rw [UInt64.toNat_add])).symm
def J4:af:=⟨[.val true (.arr 6 .u64),dY,aI],[],true,0,false⟩
abbrev asM:Type:=(ao×ab×mJ)×Unit
def aEm:Shape:=⟨61,[(2,aI),rA,BS,(6,fu),(7,aI),(13,aB)],Yt,0,true⟩
abbrev jk:Type:=(UInt64×aio)×oL
def Bt:Shape:=⟨61,[rA,jy,(7,aI)],mN,0,true⟩
abbrev vA:Type:=aik
def aEp (a2:UInt64) (a7:UInt64) (a13:Int) (c0:ao) (c1:ao) (c2:ao):OT (Sum jk aT):=
 let z0:Bool:=inB a13 6
 let z1:Bool:=decide (Int.toNat a13+0<List.length c0)
 let z2:UInt64:=List.getD c1 (Int.toNat a13+0) (0:UInt64)
 let z3:UInt64:=List.getD c0 (Int.toNat a13+0) (0:UInt64)
 let z4:UInt64:=zn (z2*a2) a7 (0:UInt64)
 (.br (decide (a13<(4:Int)))
 (gd [inB a13 4,decide (Int.toNat a13+0<List.length c1),z0,z1,z0,z1,inR (a13+(1:Int))] (.ok (.inl ((a2,(),(),(),avO z2 a2+FL (z2*a2) a7 (0:UInt64)+FL z3 z4 (0:UInt64),a13+(1:Int),()),List.set c0 (Int.toNat a13+0) (zn z3 z4 (0:UInt64)),c1,c2,()))))
 (.ok (.inr ⟨(.exit 0,Bt),(((),(),a7,()),c0,c2,())⟩)))
def RE (s:jk):OT (Sum jk aT):=aEp s.1.1 s.1.2.2.2.2.1 s.1.2.2.2.2.2.1 s.2.1 s.2.2.1 s.2.2.2.1
def asK (g0_0:jk->vA) (s:jk):OT aT:=(.ok ⟨(.exit 0,Bt),g0_0 s⟩)
def adh:aH:=⟨[.val true (.arr 6 .u64)],[],false⟩
section
variable (ok0:jk->Bool) (g0_0:jk->vA)
def aA1 (a0:ao) (a1:ab) (a2:UInt64):OT J4.Y:=
 let z0:jk:=((a2,(),(),(),(0:UInt64),(0:Int),()),tab a0 6 (0:UInt64),[a1.w0,a1.w1,a1.w2,a1.w3],[(0:UInt64),(0:UInt64),(0:UInt64),(0:UInt64),(0:UInt64),(0:UInt64)],())
 let z1:vA:=g0_0 z0
 let z2:=z1.snd
 let z3:=z2.fst
 let z4:Bool:=decide (4<List.length z3)
 let z5:UInt64:=List.getD z3 4 0
 let z6:=z1.fst.snd.snd.fst
 let z7:ao:=List.set z3 4 (zn z5 z6 (0:UInt64))
 let z8:Bool:=decide (5<List.length z7)
 let z9:ao:=List.set z7 5 (List.getD z7 5 0+FL z5 z6 (0:UInt64))
 let z10:=z2.snd.fst
 let z11:ao:=lay z10 z9 6 (0:UInt64)
 (gd [ok0 z0,z4,z4,z8,z8,decide (6<=List.length z9),decide ((6/1:Nat)+0<=List.length z10),decide (6<=List.length z11)] (.ok ⟨adh,((tab z11 6 (0:UInt64),()),())⟩))
theorem asI (h0:aY RE ok0 (asK g0_0)) (pre:asM->Bool) (F:asM->OT J4.Y) (hF:∀ (x:asM) oy,pre x=true->(F x).run=some oy->(aA1 ok0 g0_0 x.1.1 x.1.2.1 x.1.2.2.1).run=some oy):aa ag 178 (J4.aw pre F):=
 cC SD 178 Tryz.f178 J4 [adh] (js SD 0 aEm [(0,Bt)] none none RE bw h0 bw) (λx=>aA1 ok0 g0_0 x.1.1 x.1.2.1 x.1.2.2.1) hF
end
def azQ (a:ao) (x:UInt64) (k:Nat) (s:Fp):Fp:=(s.1.set k (aFo (s.1.getD k 0) (a.getD k 0) x s.2),Ca (s.1.getD k 0) (a.getD k 0) x s.2)
def ahm (s:jk):Bool:=decide (s.1.2.2.2.2.1=0/\s.1.2.2.2.2.2.1=0/\s.2.1.length=6/\s.2.2.1.length=4)
def asJ (s:jk):vA:=(((),(),(upto (azQ s.2.2.1 s.1.1) (s.2.1,0) 4).2,()),(upto (azQ s.2.2.1 s.1.1) (s.2.1,0) 4).1,s.2.2.2.1,())
theorem aEo:aY RE ahm (asK asJ):=by
 rintro ⟨⟨x,⟨⟩,⟨⟩,⟨⟩,c,i,⟨⟩⟩,⟨t,a,o,⟨⟩⟩⟩ h
 have h':=bh h
 dsimp only at h'
 obtain ⟨rfl,rfl,ht,ha⟩:=h'
 have:=(aW (T:=RE) (λk s=>(((x,(),(),(),s.2,(k:Int),()),s.1,a,o,()):jk)) (azQ a x)
  (λs=>(⟨(.exit 0,Bt),(((),(),s.2,()),s.1,o,())⟩:aT)) 4 (t,0) (λ_ s=>s.1.length=6) ht (λk s hk hs=>⟨?_,?_⟩) (λs hs=> ?_)).1
 ·obtain ⟨m,hm⟩:=this
  exact ⟨m,_,hm,rfl⟩
 ·refine (OT.ak (aj (by dsimp only;omega))).trans ((ae ?_).trans ?_)
  ·simp only [bH,Nat.add_zero,hs,ha,ax,aA,aC,av]
   exact ⟨aR (by omega),aj (by omega),aR (by omega),aj (by omega),aR (by omega),aj (by omega),aL (by omega)⟩
  ·simp only [OT.gb,bH,Nat.add_zero]
   rfl
 ·simp only [azQ,dm]
  exact hs
 ·exact OT.al (bn (by dsimp only;omega))
def ahl (_:asM):Bool:=true
def asL (x:asM):OT J4.Y:=.ok ⟨adh,((l6 (v6 x.1.1+x.1.2.1.nat*x.1.2.2.1.toNat),()),())⟩
theorem aEn:aa ag 178 (J4.aw ahl asL):=asI ahm asJ aEo _ _ λx oy hp ho=>by
 rw [<-ho]
 clear ho
 obtain ⟨⟨t,a,x,⟨⟩⟩,⟨⟩⟩:=x
 refine (ae ?_).trans ?_
 ·simp only [ax,aA,aC,av]
  exact ⟨rfl,rfl,rfl,rfl,rfl,rfl,rfl,rfl⟩
 ·have e:=aE8 (t.getD 0 0) (t.getD 1 0) (t.getD 2 0) (t.getD 3 0) (t.getD 4 0) (t.getD 5 0) a x
  have e2:l6 (v6 t+a.nat*x.toNat)=aIr (t.getD 0 0) (t.getD 1 0) (t.getD 2 0) (t.getD 3 0) (t.getD 4 0) (t.getD 5 0) a x:=e.symm
  simp only [asL,e2]
  rfl
def J3:bi:=(J4.aw ahl asL)
theorem amM:aa ag 178 J3:=aEn
theorem amL:au J3:=aq
def aB6:Env:=ap 178 J3 aBY
theorem SF:bI ag te aB6:=aP follows SD amM amL
theorem aFu {n:Nat} (h:n/18446744073709551616/18446744073709551616/18446744073709551616/18446744073709551616/18446744073709551616<18446744073709551616):v6 (l6 n)=n:=by
 unfold v6 l6
 simp only [List.getD_cons_zero,List.getD_cons_succ,dg]
 rw [show (2:Nat)^64=18446744073709551616 from rfl]
 omega
def Hs (p neg a:Nat) (b t:Nat):Nat:=(t+a*b+p*((t+a*b)*neg%18446744073709551616))/18446744073709551616
theorem uD {p neg a b t:Nat} (hn:(p*neg+1)%18446744073709551616=0):18446744073709551616*Hs p neg a b t=t+a*b+p*((t+a*b)*neg%18446744073709551616):=by
 unfold Hs
 refine Nat.mul_div_cancel' (Nat.dvd_of_mod_eq_zero ?_)
 generalize t+a*b=u
 rw [Nat.add_mod,Nat.mul_mod,Nat.mod_mod,<-Nat.mul_mod,<-Nat.add_mod]
 have:u+p*(u*neg)=u*(p*neg+1):=by
  rw [Nat.mul_add,Nat.mul_one,Nat.mul_left_comm]
  omega
 rw [this,Nat.mul_mod,hn,Nat.mul_zero,Nat.zero_mod]
theorem uC {p neg a b t:Nat} (hn:(p*neg+1)%18446744073709551616=0) (ht:t<2*p) (ha:a<p) (hb:b<18446744073709551616):Hs p neg a b t<2*p:=by
 have h:=uD (a:=a) (b:=b) (t:=t) hn
 have hm:(t+a*b)*neg%18446744073709551616<=18446744073709551615:=by
  have:=Nat.mod_lt ((t+a*b)*neg) (show 0<18446744073709551616 by omega)
  omega
 have h1:p*((t+a*b)*neg%18446744073709551616)<=p*18446744073709551615:=Nat.mul_le_mul_left _ hm
 have h2:a*b<=p*18446744073709551615:=Nat.mul_le_mul (by omega) (by omega)
 omega
theorem aDh {p a b t t1 m K T B M W:Nat} (h1:W*t1=t+a*b+p*m) (h2:K*T=t1+a*B+p*M):(W*K)*T=t+a*(b+W*B)+p*(m+W*M):=by
 have e:(W*K)*T=W*t1+W*(a*B)+W*(p*M):=by rw [Nat.mul_assoc,h2,Nat.mul_add,Nat.mul_add]
 rw [e,h1,Nat.mul_add,Nat.mul_add,Nat.mul_left_comm a W,Nat.mul_left_comm p W]
 omega
theorem aIt {p a b T K M r:Nat} (h:K*T=a*b+p*M) (hr:K*r%p=1%p):T%p=a*b*r%p:=by
 have h1:(K*T)*r=a*b*r+p*(M*r):=by rw [h,Nat.add_mul,Nat.mul_assoc p]
 have h2:a*b*r%p=(K*T*r)%p:=by rw [h1,Nat.add_mul_mod_self_left]
 have h3:K*T*r=T*(K*r):=by rw [Nat.mul_comm K T,Nat.mul_assoc]
 rw [h2,h3,Nat.mul_mod,hr,<-Nat.mul_mod,Nat.mul_one]
def aF5 (p neg a:Nat) (b:ab):Nat:=Hs p neg a b.w3.toNat (Hs p neg a b.w2.toNat (Hs p neg a b.w1.toNat (Hs p neg a b.w0.toNat 0)))
theorem axL {p neg a r:Nat} {b:ab} (hn:(p*neg+1)%18446744073709551616=0) (hr:115792089237316195423570985008687907853269984665640564039457584007913129639936*r%p=1%p):aF5 p neg a b%p=a*b.nat*r%p:=by
 have h:=aDh (uD (a:=a) (b:=b.w0.toNat) (t:=0) hn) (aDh (uD (a:=a) (b:=b.w1.toNat) hn) (aDh (uD (a:=a) (b:=b.w2.toNat) hn) (show 18446744073709551616*_=_+a*b.w3.toNat+p*_ from uD hn)))
 rw [Nat.zero_add] at h
 exact aIt (K:=18446744073709551616*(18446744073709551616*(18446744073709551616*18446744073709551616))) h hr
theorem aDX {p neg a:Nat} {b:ab} (hn:(p*neg+1)%18446744073709551616=0) (ha:a<p):aF5 p neg a b<2*p:=
 uC hn (uC hn (uC hn (uC hn (by omega) ha b.w0.toNat_lt) ha b.w1.toNat_lt) ha b.w2.toNat_lt) ha b.w3.toNat_lt
theorem aDY {T p:Nat} (h:T<2*p):T%p=if T<p then T else T-p:=by
 split
 ·exact bj ‹_›
 ·rw [Nat.mod_eq_sub_mod (by omega),bj (by omega)]
def tl:af:=⟨[On,dY,dY],[],true,0,false⟩
abbrev Wu:Type:=(iD×ru)×Unit
def ayB:Shape:=⟨61,[rA,BS,(6,fu),(7,fH),(13,dY),(14,aB)],[(0,Oo),oR,kW,nE],0,true⟩
abbrev eZ:Type:=(Unit×Unit×Unit×Unit×ab×eE)×Mf×oL
def vq:Shape:=⟨61,[rA,jy,(7,fu)],aeg,0,true⟩
abbrev yK:Type:=nC×Mf×wg
def Rj (a13:ab) (a14:Int) (c0_0:UInt64) (c0_1:UInt64) (c0_2:UInt64) (c0_3:UInt64) (c0_4:Int) (c0_5:UInt64) (c0_6:UInt64) (c0_7:UInt64) (c0_8:UInt64) (c0_9:UInt64) (c0_10:UInt64) (c1:ao) (c2:ao) (c3:ao):OT (Sum eZ aT):=
 let z0:Nat:=List.length c3
 let z1:ao:=lay c3 (l6 (v6 (tab c3 6 (0:UInt64))+ab.nat {w0:=List.getD c1 0 0,w1:=List.getD c1 1 0,w2:=List.getD c1 2 0,w3:=List.getD c1 3 0}*UInt64.toNat (List.getD [a13.w0,a13.w1,a13.w2,a13.w3] (Int.toNat a14) (0:UInt64)))) 6 (0:UInt64)
 let z2:Nat:=List.length z1
 let z3:ao:=lay z1 (l6 (v6 (tab z1 6 (0:UInt64))+ab.nat {w0:=c0_0,w1:=c0_1,w2:=c0_2,w3:=c0_3}*UInt64.toNat (List.getD z1 0 0*c0_6))) 6 (0:UInt64)
 let z4:Nat:=List.length z3
 (.br (decide (a14<(4:Int)))
 (gd [inB a14 4,decide (6<=z0),decide (4<=List.length c1),decide ((6/1:Nat)+0<=z0),decide (6<=z2),decide (0<z2),decide ((6/1:Nat)+0<=z2),decide (1<z4),decide (2<z4),decide (3<z4),decide (4<z4),decide (5<z4),decide ((6/1:Nat)+0<=z4),inR (a14+(1:Int))] (.ok (.inl (((),(),(),(),a13,a14+(1:Int),()),(c0_0,c0_1,c0_2,c0_3,c0_4,c0_5,c0_6,c0_7,c0_8,c0_9,c0_10,()),c1,c2,List.set (List.set (List.set (List.set (List.set (List.set z3 0 (List.getD z3 1 0)) 1 (List.getD z3 2 0)) 2 (List.getD z3 3 0)) 3 (List.getD z3 4 0)) 4 (List.getD z3 5 0)) 5 (0:UInt64),()))))
 (.ok (.inr ⟨(.exit 0,vq),(((),(),(),()),(c0_0,c0_1,c0_2,c0_3,c0_4,c0_5,c0_6,c0_7,c0_8,c0_9,c0_10,()),c2,c3,())⟩)))
def Gn (s:eZ):OT (Sum eZ aT):=Rj s.1.2.2.2.2.1 s.1.2.2.2.2.2.1 s.2.1.1 s.2.1.2.1 s.2.1.2.2.1 s.2.1.2.2.2.1 s.2.1.2.2.2.2.1 s.2.1.2.2.2.2.2.1 s.2.1.2.2.2.2.2.2.1 s.2.1.2.2.2.2.2.2.2.1 s.2.1.2.2.2.2.2.2.2.2.1 s.2.1.2.2.2.2.2.2.2.2.2.1 s.2.1.2.2.2.2.2.2.2.2.2.2.1 s.2.2.1 s.2.2.2.1 s.2.2.2.2.1
def ag8 (g0_0:eZ->yK) (s:eZ):OT aT:=(.ok ⟨(.exit 0,vq),g0_0 s⟩)
def vp:aH:=⟨fG,[],false⟩
section
variable (ok0:eZ->Bool) (g0_0:eZ->yK)
def ar0 (a0:iD) (a1:ab) (a2:ab):OT tl.Y:=
 let z0:eZ:=(((),(),(),(),a2,(0:Int),()),(a0.fst.w0,a0.fst.w1,a0.fst.w2,a0.fst.w3,a0.snd.fst,a0.snd.snd.fst,a0.snd.snd.snd.fst,a0.snd.snd.snd.snd.w0,a0.snd.snd.snd.snd.w1,a0.snd.snd.snd.snd.w2,a0.snd.snd.snd.snd.w3,()),[a1.w0,a1.w1,a1.w2,a1.w3],[(0:UInt64),(0:UInt64),(0:UInt64),(0:UInt64)],[(0:UInt64),(0:UInt64),(0:UInt64),(0:UInt64),(0:UInt64),(0:UInt64)],())
 let z1:=(g0_0 z0).snd
 let z2:=z1.snd
 let z3:=z2.snd.fst
 let z4:Nat:=List.length z3
 let z5:=z2.fst
 let z6:Nat:=List.length z5
 let z7:Bool:=decide ((4/1:Nat)+0<=z6)
 let z8:=z1.fst
 let z9:=z8.snd
 let z10:=z9.snd
 let z11:ab×Bool:=ka {w0:=List.getD z3 0 0,w1:=List.getD z3 1 0,w2:=List.getD z3 2 0,w3:=List.getD z3 3 0} {w0:=z8.fst,w1:=z9.fst,w2:=z10.fst,w3:=z10.snd.fst}
 let z12:=z11.fst
 let z13:ao:=List.set (List.set (List.set (List.set z5 0 z12.w0) 1 z12.w1) 2 z12.w2) 3 z12.w3
 let z14:Bool:=decide (4<=List.length z13)
 let z15:ab:= {w0:=List.getD z13 0 0,w1:=List.getD z13 1 0,w2:=List.getD z13 2 0,w3:=List.getD z13 3 0}
 let z16:ao:=lay z5 z3 4 (0:UInt64)
 (gd [ok0 z0,decide (6<=z4)&&true,decide (4<=z4),decide (4<z4)] (.br (!List.getD z3 4 0==(0:UInt64))
 (gd [z7,z14] (.ok ⟨vp,((z15,()),())⟩))
 (.br (!z11.snd)
  (gd [z7,z14] (.ok ⟨vp,((z15,()),())⟩))
  (gd [decide ((4/1:Nat)+0<=z6),decide (4<=List.length z16)] (.ok ⟨vp,(({w0:=List.getD z16 0 0,w1:=List.getD z16 1 0,w2:=List.getD z16 2 0,w3:=List.getD z16 3 0},()),())⟩)))))
theorem amf (h0:aY Gn ok0 (ag8 g0_0)) (pre:Wu->Bool) (F:Wu->OT tl.Y) (hF:∀ (x:Wu) oy,pre x=true->(F x).run=some oy->(ar0 ok0 g0_0 x.1.1 x.1.2.1 x.1.2.2.1).run=some oy):aa ag 154 (tl.aw pre F):=
 cC SF 154 Tryz.f154 tl [vp] (js SF 0 ayB [(0,vq)] none none Gn bw h0 bw) (λx=>ar0 ok0 g0_0 x.1.1 x.1.2.1 x.1.2.2.1) hF
end
def kM (n:Mh):Bool:=decide (n=numOf 2)||decide (n=numOf 3)
theorem je {n:Mh} (h:kM n=true):n=numOf 2\/n=numOf 3:=by
 simpa [kM] using h
def aw7 (n:Mh):Nat:=if n.2.2.2.1==11037532056220336127 then 15353493766103302224812374511606760489073247795810767472367693728416386214313 else 14238205147845459960272226733876560297615832660064601289232577236146637664127
theorem arO {n:Mh} (h:kM n=true):(n.1.nat*n.2.2.2.1.toNat+1)%18446744073709551616=0:=by
 rcases je h with rfl|rfl<;>decide+kernel
theorem arP {n:Mh} (h:kM n=true):115792089237316195423570985008687907853269984665640564039457584007913129639936*aw7 n%n.1.nat=1%n.1.nat:=by
 rcases je h with rfl|rfl<;>decide+kernel
theorem arM {n:Mh} (h:kM n=true):2*n.1.nat<=115792089237316195423570985008687907853269984665640564039457584007913129639936:=by
 rcases je h with rfl|rfl<;>decide+kernel
theorem aIj (n:Nat):tab (l6 n) 6 0=l6 n:=rfl
theorem axU {n:Nat} (h:n/18446744073709551616/18446744073709551616/18446744073709551616/18446744073709551616/18446744073709551616/18446744073709551616=0):
 [UInt64.ofNat (n/18446744073709551616),UInt64.ofNat (n/18446744073709551616/18446744073709551616),UInt64.ofNat (n/18446744073709551616/18446744073709551616/18446744073709551616),
  UInt64.ofNat (n/18446744073709551616/18446744073709551616/18446744073709551616/18446744073709551616),UInt64.ofNat (n/18446744073709551616/18446744073709551616/18446744073709551616/18446744073709551616/18446744073709551616),0]=l6 (n/18446744073709551616):=by
 unfold l6
 rw [h]
 rfl
theorem aIn (a b:Nat):lay (l6 a) (l6 b) 6 0=l6 b:=Vt rfl rfl
theorem avX (U:Nat) (neg:UInt64):(List.getD (l6 U) 0 0*neg).toNat=U*neg.toNat%18446744073709551616:=by
 show (UInt64.ofNat U*neg).toNat=_
 rw [UInt64.toNat_mul,dg,Nat.mul_mod,Nat.mod_mod,<-Nat.mul_mod]
theorem ame (b:ab) (k:Nat) (hk:k<4) (x0 x1 x2 x3 x5 x6 x7 x8 x9 x10:UInt64) (x4:Int) (c1 c2:ao) (T:Nat) (h1:c1.length=4) (hT:T<2*(ab.mk x0 x1 x2 x3).nat)
 (hn:((ab.mk x0 x1 x2 x3).nat*x6.toNat+1)%18446744073709551616=0) (hp:2*(ab.mk x0 x1 x2 x3).nat<=115792089237316195423570985008687907853269984665640564039457584007913129639936) (ha:(elemOf c1).nat<(ab.mk x0 x1 x2 x3).nat):
 (Rj b (k:Int) x0 x1 x2 x3 x4 x5 x6 x7 x8 x9 x10 c1 c2 (l6 T)).run=some (.inl (((),(),(),(),b,((k+1:Nat):Int),()),(x0,x1,x2,x3,x4,x5,x6,x7,x8,x9,x10,()),c1,c2,l6 (Hs (ab.mk x0 x1 x2 x3).nat x6.toNat (elemOf c1).nat ((lst b).getD k 0).toNat T),())):=by
 have hlt:=uC (b:=((lst b).getD k 0).toNat) hn hT ha (UInt64.toNat_lt _)
 have heq:=uD (a:=(elemOf c1).nat) (b:=((lst b).getD k 0).toNat) (t:=T) hn
 have hrd:Hs (ab.mk x0 x1 x2 x3).nat x6.toNat (elemOf c1).nat ((lst b).getD k 0).toNat T=(T+(elemOf c1).nat*((lst b).getD k 0).toNat+(ab.mk x0 x1 x2 x3).nat*((T+(elemOf c1).nat*((lst b).getD k 0).toNat)*x6.toNat%18446744073709551616))/18446744073709551616:=rfl
 generalize hU:T+(elemOf c1).nat*((lst b).getD k 0).toNat=U at heq hrd
 generalize hV:U+(ab.mk x0 x1 x2 x3).nat*(U*x6.toNat%18446744073709551616)=V at heq hrd
 generalize Hs (ab.mk x0 x1 x2 x3).nat x6.toNat (elemOf c1).nat ((lst b).getD k 0).toNat T=S at*
 have hVU:U<=V:=by rw [<-hV];exact Nat.le_add_right _ _
 have hz1:lay (l6 T) (l6 (v6 (tab (l6 T) 6 0)+ab.nat {w0:=List.getD c1 0 0,w1:=List.getD c1 1 0,w2:=List.getD c1 2 0,w3:=List.getD c1 3 0}*UInt64.toNat (List.getD [b.w0,b.w1,b.w2,b.w3] (Int.toNat (k:Int)) 0))) 6 0=l6 U:=by
  rw [aIj,aFu (by omega),aIn,bH]
  exact congrArg l6 hU
 have hz3:lay (l6 U) (l6 (v6 (tab (l6 U) 6 0)+ab.nat {w0:=x0,w1:=x1,w2:=x2,w3:=x3}*UInt64.toNat (List.getD (l6 U) 0 0*x6))) 6 0=l6 V:=by
  rw [aIj,aFu (by omega),aIn,avX,hV]
 have hsh:_=l6 (V/18446744073709551616):=axU (n:=V) (by omega)
 unfold Rj
 simp only [hz1,hz3]
 refine (OT.ak (aj (by omega))).trans ((ae ?_).trans ?_)
 ·simp only [aq0,h1,ax,aA,aC,av]
  exact ⟨aR (by omega),rfl,rfl,rfl,rfl,rfl,rfl,rfl,rfl,rfl,rfl,rfl,rfl,aL (by omega)⟩
 ·rw [hrd]
  exact congrArg (λl=>some (Sum.inl (((),(),(),(),b,((k+1:Nat):Int),()),(x0,x1,x2,x3,x4,x5,x6,x7,x8,x9,x10,()),c1,c2,l,()))) hsh
def atD (s:eZ):ab:=⟨s.2.1.1,s.2.1.2.1,s.2.1.2.2.1,s.2.1.2.2.2.1⟩
def aER (s:eZ):UInt64:=s.2.1.2.2.2.2.2.2.1
def Wt (s:eZ):Bool:=decide (s.1.2.2.2.2.2.1=0/\s.2.2.1.length=4/\s.2.2.2.2.1=l6 0/\((atD s).nat*(aER s).toNat+1)%18446744073709551616=0/\2*(atD s).nat<=115792089237316195423570985008687907853269984665640564039457584007913129639936/\(elemOf s.2.2.1).nat<(atD s).nat)
def Ri (s:eZ):yK:=(((),(),(),()),s.2.1,s.2.2.2.1,l6 (aF5 (atD s).nat (aER s).toNat (elemOf s.2.2.1).nat s.1.2.2.2.2.1),())
theorem ayD:aY Gn Wt (ag8 Ri):=by
 rintro ⟨⟨⟨⟩,⟨⟩,⟨⟩,⟨⟩,b,i,⟨⟩⟩,⟨⟨x0,x1,x2,x3,x4,x5,x6,x7,x8,x9,x10,⟨⟩⟩,c1,c2,c3,⟨⟩⟩⟩ h
 have h':=bh h
 dsimp only [atD,aER] at h'
 obtain ⟨rfl,h1,rfl,hn,hp,ha⟩:=h'
 have:=(aW (T:=Gn) (λk T=>((((),(),(),(),b,(k:Int),()),(x0,x1,x2,x3,x4,x5,x6,x7,x8,x9,x10,()),c1,c2,l6 T,()):eZ)) (λk T=>Hs (ab.mk x0 x1 x2 x3).nat x6.toNat (elemOf c1).nat ((lst b).getD k 0).toNat T)
  (λT=>(⟨(.exit 0,vq),(((),(),(),()),(x0,x1,x2,x3,x4,x5,x6,x7,x8,x9,x10,()),c2,l6 T,())⟩:aT)) 4 0 (λ_ T=>T<2*(ab.mk x0 x1 x2 x3).nat) (by omega) (λk T hk hT=>⟨?_,?_⟩) (λT hT=> ?_)).1
 ·obtain ⟨m,hm⟩:=this
  exact ⟨m,_,hm,rfl⟩
 ·exact ame b k hk x0 x1 x2 x3 x5 x6 x7 x8 x9 x10 x4 c1 c2 T h1 hT hn hp ha
 ·exact uC hn hT ha (UInt64.toNat_lt _)
 ·exact OT.al (bn (by dsimp only;omega))
def tk (x:Wu):Bool:=kM x.1.1&&Nat.blt x.1.2.1.nat x.1.1.1.nat
def ar1 (x:Wu):OT tl.Y:=.ok ⟨vp,((ofN (x.1.2.1.nat*x.1.2.2.1.nat*aw7 x.1.1%x.1.1.1.nat),()),())⟩
theorem ayC:aa ag 154 (tl.aw tk ar1):=amf Wt Ri ayD _ _ λx oy hp ho=>by
 rw [<-ho]
 clear ho
 obtain ⟨⟨⟨⟨m0,m1,m2,m3⟩,ad,sm,neg,sq⟩,a,b,⟨⟩⟩,⟨⟩⟩:=x
 have hp':(kM (⟨m0,m1,m2,m3⟩,ad,sm,neg,sq)&&Nat.blt a.nat (ab.mk m0 m1 m2 m3).nat)=true:=hp
 rw [av] at hp'
 obtain ⟨hg,ha⟩:=hp'
 have ha:=db ha
 have hn:((ab.mk m0 m1 m2 m3).nat*neg.toNat+1)%18446744073709551616=0:=arO hg
 have h2:2*(ab.mk m0 m1 m2 m3).nat<=115792089237316195423570985008687907853269984665640564039457584007913129639936:=arM hg
 have hr:115792089237316195423570985008687907853269984665640564039457584007913129639936*aw7 (⟨m0,m1,m2,m3⟩,ad,sm,neg,sq)%(ab.mk m0 m1 m2 m3).nat=1%(ab.mk m0 m1 m2 m3).nat:=arP hg
 have hM:=axL (a:=a.nat) (b:=b) hn hr
 have hL:=aDX (b:=b) hn ha
 refine (ae ?_).trans ?_
 ·simp only [ax,aA,aC,av]
  exact ⟨aj ⟨rfl,rfl,rfl,hn,h2,ha⟩,rfl,rfl,rfl⟩
 ·show _=(OT.ok ⟨vp,((ofN (a.nat*b.nat*aw7 (⟨m0,m1,m2,m3⟩,ad,sm,neg,sq)%(ab.mk m0 m1 m2 m3).nat),()),())⟩:OT tl.Y).run
  rw [<-hM,aDY hL]
  have e0:Ri (((),(),(),(),b,0,()),(m0,m1,m2,m3,ad,sm,neg,sq.w0,sq.w1,sq.w2,sq.w3,()),[a.w0,a.w1,a.w2,a.w3],[0,0,0,0],[0,0,0,0,0,0],())=(((),(),(),()),(m0,m1,m2,m3,ad,sm,neg,sq.w0,sq.w1,sq.w2,sq.w3,()),[0,0,0,0],l6 (aF5 (ab.mk m0 m1 m2 m3).nat neg.toNat a.nat b),()):=rfl
  dsimp only
  rw [e0]
  clear e0 hM
  generalize aF5 (ab.mk m0 m1 m2 m3).nat neg.toNat a.nat b=M at*
  have e4:List.getD (l6 M) 4 0=0:=by
   show UInt64.ofNat (M/18446744073709551616/18446744073709551616/18446744073709551616/18446744073709551616)=0
   rw [show M/18446744073709551616/18446744073709551616/18446744073709551616/18446744073709551616=0 by omega]
   rfl
  refine (OT.al (by rw [e4];rfl)).trans ?_
  have eN:(ofN M).nat=M:=nQ (by omega)
  by_cases hlt:M<(ab.mk m0 m1 m2 m3).nat
  ·rw [if_pos hlt]
   refine (OT.al ?_).trans ((ae rfl).trans rfl)
   show (!Nat.blt (ofN M).nat (ab.mk m0 m1 m2 m3).nat)=false
   rw [eN,show Nat.blt M (ab.mk m0 m1 m2 m3).nat=true from lb hlt]
   rfl
  ·rw [if_neg hlt]
   refine (OT.ak ?_).trans ((ae rfl).trans ?_)
   ·show (!Nat.blt (ofN M).nat (ab.mk m0 m1 m2 m3).nat)=true
    rw [eN]
    cases hb:Nat.blt M (ab.mk m0 m1 m2 m3).nat
    ·rfl
    ·exact absurd (db hb) hlt
   ·have ew:(ka (ofN M) (ab.mk m0 m1 m2 m3)).1=ofN (M-(ab.mk m0 m1 m2 m3).nat):=by
     apply iY
     rw [o4 (by omega),eN,nQ (by omega)]
    rw [<-ew]
    rfl
def DH:bi:=(tl.aw tk ar1)
theorem acI:aa ag 154 DH:=ayC
theorem acH:au DH:=aq
def avn:Env:=ap 154 DH aB6
theorem Y0:bI ag te avn:=aP follows SF acI acH
def tv:af:=⟨[On,dY,dY],[],true,0,false⟩
abbrev WI:Type:=(iD×ru)×Unit
def qu:aH:=⟨fG,[],false⟩
def DP (a0:iD) (a1:ab) (a2:ab):OT tv.Y:=
 let z0:Bool:= !a0.snd.snd.fst==(0:UInt64)
 let z1:Nat:=ab.nat a0.fst
 let z2:ab:=ofN (ab.nat a1%z1)
 let z3:ab:=ofN (ab.nat a2%z1)
 let z4:Nat:=aw7 a0
 let z5:ab:=ofN (ab.nat z2*ab.nat z3*z4%z1)
 (gd [gQ ((a0,a1,()),()),gQ ((a0,a2,()),())] (.br (z0)
 (gd [z0] (.ok ⟨qu,(({w0:=z2.w0*z3.w0%a0.snd.snd.fst,w1:=0,w2:=0,w3:=0},()),())⟩))
 (gd [tk ((a0,z2,z3,()),()),tk ((a0,z5,a0.snd.snd.snd.snd,()),())] (.ok ⟨qu,((ofN (ab.nat z5*ab.nat a0.snd.snd.snd.snd*z4%z1),()),())⟩))))
theorem ams (pre:WI->Bool) (F:WI->OT tv.Y) (hF:∀ (x:WI) oy,pre x=true->(F x).run=some oy->(DP x.1.1 x.1.2.1 x.1.2.2.1).run=some oy):aa ag 119 (tv.aw pre F):=
 cC Y0 119 Tryz.f119 tv [qu] bw (λx=>DP x.1.1 x.1.2.1 x.1.2.2.1) hF
theorem aqH {p A B r s:Nat} (h:r*s*r%p=1%p):A*B*r%p*s*r%p=A*B%p:=by
 have e:A*B*r*(s*r)=A*B*(r*s*r):=by
  rw [Nat.mul_assoc (A*B) r (s*r),Nat.mul_assoc r s r]
 rw [Nat.mul_assoc,Nat.mul_mod,Nat.mod_mod,<-Nat.mul_mod,e,Nat.mul_mod,h,<-Nat.mul_mod,Nat.mul_one]
theorem ayn {n:Mh} (h:kM n=true):aw7 n*n.2.2.2.2.nat*aw7 n%n.1.nat=1%n.1.nat:=by
 rcases je h with rfl|rfl<;>decide+kernel
theorem aGj:kM (numOf 2)=true:=by decide+kernel
theorem aGi:kM (numOf 3)=true:=by decide+kernel
theorem arN {n:Mh} (h:kM n=true):kJ n=true:=by
 rcases je h with rfl|rfl<;>decide+kernel
theorem E9 {n:Mh} {a b:ab} {m:UInt64} (hn0:kJ n=true) (h1:n.1=⟨m,0,0,0⟩) (h2:n.2.2.1=m) (hs:gr m=true):(DP n a b).run=some ⟨qu,((aQ n.1.nat a b,()),())⟩:=by
 have hm:=lX hs
 have hb':m.toNat<=16521217:=by rcases eu hs with rfl|rfl<;>decide
 have hn:n.1.nat=m.toNat:=by rw [h1];show m.toNat+_*(0+_*(0+_*0))=_;omega
 have hz:(!(n.2.2.1==0))=true:=by
  rw [h2]
  rcases eu hs with rfl|rfl<;>rfl
 have ha:=Nat.mod_lt a.nat hm
 have hb:=Nat.mod_lt b.nat hm
 have hab:a.nat%m.toNat*(b.nat%m.toNat)<18446744073709551616:=by
  have:a.nat%m.toNat*(b.nat%m.toNat)<=16521217*16521217:=Nat.mul_le_mul (by omega) (by omega)
  omega
 have e:UInt64.ofNat (a.nat%m.toNat)*UInt64.ofNat (b.nat%m.toNat)%m=UInt64.ofNat (a.nat*b.nat%m.toNat):=by
  have hlt:=Nat.mod_lt (a.nat*b.nat) hm
  rw [<-kE,UInt64.toNat_mod,UInt64.toNat_mul,dg,dg,dg,bj (a:=a.nat%m.toNat) (by omega),bj (a:=b.nat%m.toNat) (by omega),
   bj (a:=a.nat%m.toNat*(b.nat%m.toNat)) (by omega),bj (a:=a.nat*b.nat%m.toNat) (by omega),<-Nat.mul_mod]
 have hlt:=Nat.mod_lt (a.nat*b.nat) hm
 unfold DP
 refine (ae ?_).trans ((OT.ak hz).trans ((ae ?_).trans ?_))
 ·simp only [ax,aA,aC,av]
  exact ⟨hn0,hn0⟩
 ·simp only [hz,ax,aA,aC]
 ·unfold aQ
  rw [hn,Ia (n:=a.nat*b.nat%m.toNat) (by omega),<-e]
  show some (⟨qu,((⟨UInt64.ofNat (a.nat%m.toNat)*UInt64.ofNat (b.nat%m.toNat)%n.2.2.1,0,0,0⟩,()),())⟩:tv.Y)=_
  rw [h2]
theorem JP {n:Mh} {a b:ab} (h:kM n=true) (h2:n.2.2.1=0):(DP n a b).run=some ⟨qu,((aQ n.1.nat a b,()),())⟩:=by
 have hn0:=arN h
 have hp:=AJ hn0
 have hz:(!(n.2.2.1==0))=false:=by rw [h2];rfl
 have e1:(ofN (a.nat%n.1.nat)).nat=a.nat%n.1.nat:=cL hp
 have e2:(ofN (b.nat%n.1.nat)).nat=b.nat%n.1.nat:=cL hp
 have e3:(ofN (a.nat%n.1.nat*(b.nat%n.1.nat)*aw7 n%n.1.nat)).nat=a.nat%n.1.nat*(b.nat%n.1.nat)*aw7 n%n.1.nat:=cL hp
 unfold DP
 refine (ae ?_).trans ((OT.al hz).trans ((ae ?_).trans ?_))
 ·simp only [ax,aA,aC,av]
  exact ⟨hn0,hn0⟩
 ·simp only [ax,aA,aC,av,tk,h,true_and,e1,e2,e3]
  exact ⟨lb (Nat.mod_lt _ hp.1),lb (Nat.mod_lt _ hp.1)⟩
 ·simp only [e1,e2,e3,aqH (ayn h),aQ,<-Nat.mul_mod]
  rfl
def gy (x:WI):Bool:=kJ x.1.1
def asn (x:WI):OT tv.Y:=.ok ⟨qu,((aQ x.1.1.1.nat x.1.2.1 x.1.2.2.1,()),())⟩
theorem ayP:aa ag 119 (tv.aw gy asn):=ams _ _ λx oy hp ho=>by
 rw [<-ho]
 clear ho
 obtain ⟨⟨n,a,b,⟨⟩⟩,⟨⟩⟩:=x
 have hp':kJ n=true:=hp
 rcases xN hp' with rfl|rfl|rfl|rfl
 ·exact E9 hp' (m:=16513537) rfl rfl rfl
 ·exact E9 hp' (m:=16521217) rfl rfl rfl
 ·exact JP aGj rfl
 ·exact JP aGi rfl
def DO:bi:=(tv.aw gy asn)
theorem acV:aa ag 119 DO:=ayP
theorem acU:au DO:=aq
def avu:Env:=ap 119 DO avn
theorem Y5:bI ag te avu:=aP follows Y0 acV acU
def wy:af:=⟨Lb,[],true,0,false⟩
abbrev acT:Type:=K6
def DN:aH:=⟨fG,[],false⟩
def aAR (a0:Int) (a1:ab) (a2:ab):OT wy.Y:=
 let z0:iD:=numOf (Int.toNat a0)
 (.br (ac a0)
 (gd [gy ((z0,a1,a2,()),())] (.ok ⟨DN,((aQ (ab.nat z0.fst) a1 a2,()),())⟩))
 (.ok ⟨DN,(({w0:=0,w1:=0,w2:=0,w3:=0},()),())⟩))
theorem asm (pre:acT->Bool) (F:acT->OT wy.Y) (hF:∀ (x:acT) oy,pre x=true->(F x).run=some oy->(aAR x.1.1 x.1.2.1 x.1.2.2.1).run=some oy):aa ag 70 (wy.aw pre F):=
 cC Y5 70 Tryz.f70 wy [DN] bw (λx=>aAR x.1.1 x.1.2.1 x.1.2.2.1) hF
def ahc (_:acT):Bool:=true
def aAS (x:acT):OT wy.Y:=.br (ac x.1.1) (.ok ⟨DN,((aQ (pS x.1.1) x.1.2.1 x.1.2.2.1,()),())⟩) (.ok ⟨DN,((⟨0,0,0,0⟩,()),())⟩)
theorem asl:aa ag 70 (wy.aw ahc aAS):=asm _ _ λx oy hp ho=>by
 rw [<-ho]
 clear ho
 obtain ⟨⟨s,a,b,⟨⟩⟩,⟨⟩⟩:=x
 cases hs:ac s
 ·exact (OT.al hs).trans (OT.al (b:=ac s) hs).symm
 ·refine (OT.ak hs).trans ((ae ?_).trans (OT.ak (b:=ac s) hs).symm)
  simp only [ax,aA,aC]
  exact iW hs
def JO:bi:=(wy.aw ahc aAS)
theorem amr:aa ag 70 JO:=asl
theorem amq:au JO:=aq
def aB1:Env:=ap 70 JO avu
theorem ai9:bI ag te aB1:=aP follows Y5 amr amq
def yN:af:=⟨fG,[],true,0,false⟩
abbrev WR:Type:=oN×Unit
def Rw:aH:=⟨fG,[],false⟩
def asu (a0:ab):OT yN.Y:=
 (.ok ⟨Rw,(({w0:=bA a0.w0 (1:Int)|||cn a0.w1 (63:Int),w1:=bA a0.w1 (1:Int)|||cn a0.w2 (63:Int),w2:=bA a0.w2 (1:Int)|||cn a0.w3 (63:Int),w3:=bA a0.w3 (1:Int)},()),())⟩)
theorem amB (pre:WR->Bool) (F:WR->OT yN.Y) (hF:∀ (x:WR) oy,pre x=true->(F x).run=some oy->(asu x.1.1).run=some oy):aa ag 120 (yN.aw pre F):=
 cC ai9 120 Tryz.f120 yN [Rw] bw (λx=>asu x.1.1) hF
theorem Jz (x y:UInt64):(bA x 1|||cn y 63).toNat=x.toNat/2+9223372036854775808*(y.toNat%2):=by
 have hx:=x.toNat_lt
 have e1:(bA x 1).toNat=x.toNat/2:=ga x 1 (by omega)
 have e2:(cn y 63).toNat=9223372036854775808*(y.toNat%2):=by
  have:=lY y 63 (by omega)
  have e:(cn y 63).toNat=y.toNat*2^63%2^64:=this
  rw [e]
  omega
 rw [UInt64.toNat_or,e1,e2,Nat.or_comm]
 have:=Nat.two_pow_add_eq_or_of_lt (i:=63) (b:=x.toNat/2) (by omega) (y.toNat%2)
 rw [Nat.add_comm]
 exact this.symm
theorem JA (x N:Nat):(x+18446744073709551616*N)/2=(x/2+9223372036854775808*(N%2))+18446744073709551616*(N/2):=by
 omega
theorem abG (y N:Nat):(y+18446744073709551616*N)%2=y%2:=by
 omega
def hJ (a:ab):ab:=ofN (a.nat/2)
theorem aym (a:ab):hJ a=⟨bA a.w0 1|||cn a.w1 63,bA a.w1 1|||cn a.w2 63,bA a.w2 1|||cn a.w3 63,bA a.w3 1⟩:=by
 refine aqf (k:=0) ?_
 rw [Jz,Jz,Jz,Nat.mul_zero,Nat.add_zero]
 unfold Sx.ab.nat
 have e3:(bA a.w3 1).toNat=a.w3.toNat/2:=ga a.w3 1 (by omega)
 rw [JA,abG,JA,abG,JA,e3]
def WQ (_:WR):Bool:=true
def ac2 (x:WR):OT yN.Y:=.ok ⟨Rw,((hJ x.1.1,()),())⟩
theorem ayR:aa ag 120 (yN.aw WQ ac2):=amB _ _ λx oy hp ho=>by
 rw [<-ho]
 clear ho
 obtain ⟨⟨a,⟨⟩⟩,⟨⟩⟩:=x
 simp only [ac2,aym]
 rfl
def DR:bi:=(yN.aw WQ ac2)
theorem ac1:aa ag 120 DR:=ayR
theorem ac0:au DR:=aq
def avx:Env:=ap 120 DR aB1
theorem Ls:bI ag te avx:=aP follows ai9 ac1 ac0
def kw:af:=⟨jz,[],true,0,false⟩
abbrev Bn:Type:=aif
def amx:Shape:=⟨12,[ua,BS,(5,aB),(6,aB)],mN,0,true⟩
abbrev dT:Type:=rv×wg
def nx:Shape:=⟨12,[ua,BS],mN,0,true⟩
abbrev qx:Type:=mH
def amA (a5:Int) (a6:Int) (c0:ao) (c1:ao):OT (Sum dT aT):=
 let z0:Nat:=List.length c0
 let z1:ab:=hJ {w0:=List.getD c0 0 0,w1:=List.getD c0 1 0,w2:=List.getD c0 2 0,w3:=List.getD c0 3 0}
 (.br (decide (a6<a5))
 (gd [decide (4<=z0),decide ((4/1:Nat)+0<=z0),inR (a6+(1:Int))] (.ok (.inl (((),(),a5,a6+(1:Int),()),List.set (List.set (List.set (List.set c0 0 z1.w0) 1 z1.w1) 2 z1.w2) 3 z1.w3,c1,()))))
 (.ok (.inr ⟨(.exit 0,nx),(((),(),()),c0,c1,())⟩)))
def vx (s:dT):OT (Sum dT aT):=amA s.1.2.2.1 s.1.2.2.2.1 s.2.1 s.2.2.1
def NH (g0_0:dT->qx) (s:dT):OT aT:=(.ok ⟨(.exit 0,nx),g0_0 s⟩)
def oz:aH:=⟨fG,[],false⟩
section
variable (ok0:dT->Bool) (g0_0:dT->qx)
def WN (a0:ab) (a1:Int):OT kw.Y:=
 let z0:dT:=(((),(),a1,(0:Int),()),[a0.w0,a0.w1,a0.w2,a0.w3],[(0:UInt64),(0:UInt64),(0:UInt64),(0:UInt64)],())
 let z1:=(g0_0 z0).snd
 let z2:=z1.fst
 let z3:=z1.snd.fst
 let z4:ao:=lay z3 z2 4 (0:UInt64)
 (gd [ok0 z0,decide (4<=List.length z2),decide ((4/1:Nat)+0<=List.length z3),decide (4<=List.length z4)] (.ok ⟨oz,(({w0:=List.getD z4 0 0,w1:=List.getD z4 1 0,w2:=List.getD z4 2 0,w3:=List.getD z4 3 0},()),())⟩))
theorem WM (h0:aY vx ok0 (NH g0_0)) (pre:Bn->Bool) (F:Bn->OT kw.Y) (hF:∀ (x:Bn) oy,pre x=true->(F x).run=some oy->(WN ok0 g0_0 x.1.1 x.1.2.1).run=some oy):aa ag 176 (kw.aw pre F):=
 cC Ls 176 Tryz.f176 kw [oz] (js Ls 0 amx [(0,nx)] none none vx bw h0 bw) (λx=>WN ok0 g0_0 x.1.1 x.1.2.1) hF
end
def jd (a:ab) (n:Nat):ab:=ofN (a.nat/2^n)
theorem Jy (a:ab):∀ n,upto (λ_ e=>hJ e) a n=jd a n
 |0=>by
  show a=ofN (a.nat/2^0)
  rw [Nat.pow_zero,Nat.div_one,AG]
 |n+1=>by
  show hJ (upto (λ_ e=>hJ e) a n)=_
  rw [Jy a n]
  unfold hJ jd
  have:=iX a
  have h2:a.nat/2^n<=a.nat:=Nat.div_le_self _ _
  rw [nQ (by omega),Nat.div_div_eq_div_mul,<-Nat.pow_succ]
def JW (s:dT):Bool:=decide (s.1.2.2.2.1=0/\0<=s.1.2.2.1/\s.1.2.2.1<=1000000/\s.2.1.length=4)
def NG (s:dT):qx:=(((),(),()),lst (jd (elemOf s.2.1) s.1.2.2.1.toNat),s.2.2.1,())
theorem amz:aY vx JW (NH NG):=by
 rintro ⟨⟨⟨⟩,⟨⟩,k,i,⟨⟩⟩,⟨l,o,⟨⟩⟩⟩ h
 have h':=bh h
 dsimp only at h'
 obtain ⟨rfl,h0,h1,hl⟩:=h'
 obtain ⟨a,rfl⟩:∃ a,l=lst a:=⟨elemOf l,(bY hl).symm⟩
 have:=(aW (T:=vx) (λi a=>((((),(),k,(i:Int),()),lst a,o,()):dT)) (λ_ e=>hJ e)
  (λa=>(⟨(.exit 0,nx),(((),(),()),lst a,o,())⟩:aT)) k.toNat a (λ_ _=>True) trivial (λi a hi _=>⟨?_,trivial⟩) (λa _=> ?_)).1
 ·rw [Jy] at this
  obtain ⟨m,hm⟩:=this
  exact ⟨m,_,hm,rfl⟩
 ·refine (OT.ak (aj (by dsimp only;omega))).trans ((ae ?_).trans rfl)
  simp only [ax,aA,aC,av]
  exact ⟨rfl,rfl,aL (by omega)⟩
 ·exact OT.al (bn (by dsimp only;omega))
def qw (x:Bn):Bool:=decide (0<=x.1.2.1/\x.1.2.1<=1000000)
def WO (x:Bn):OT kw.Y:=.ok ⟨oz,((jd x.1.1 x.1.2.1.toNat,()),())⟩
theorem amy:aa ag 176 (kw.aw qw WO):=WM JW NG amz _ _ λx oy hp ho=>by
 rw [<-ho]
 clear ho
 obtain ⟨⟨a,k,⟨⟩⟩,⟨⟩⟩:=x
 have hp':0<=k/\k<=1000000:=bh hp
 refine (ae ?_).trans ?_
 ·simp only [ax,aA,aC,av]
  exact ⟨aj ⟨rfl,hp'.1,hp'.2,rfl⟩,rfl,rfl,rfl⟩
 ·show some (⟨oz,((elemOf (lay [0,0,0,0] (lst (jd a k.toNat)) 4 0),()),())⟩:kw.Y)=some ⟨oz,((jd a k.toNat,()),())⟩
  rw [aIo _ _ rfl rfl]
  rfl
def tA:bi:=(kw.aw qw WO)
theorem Rv:aa ag 176 tA:=amy
theorem Ru:au tA:=aq
def Y6:Env:=ap 176 tA avx
theorem zE:bI ag te Y6:=aP follows Ls Rv Ru
def bJ (k:ab):Bool:=(k.w0==0&&(k.w1==0&&(k.w2==0&&(k.w3==0&&true))))
def aHa (k:ab):Bool:=(k.w0&&&1==1)
theorem dM (k:ab):bJ k=Nat.beq k.nat 0:=by
 unfold bJ Sx.ab.nat
 have e:∀ x:UInt64,(x==0)=decide (x.toNat=0):=λx=>by
  by_cases h:x=0
  ·subst h;rfl
  ·have h':¬x.toNat=0:=λh'=>h (UInt64.toNat_inj.1 h')
   rw [bn h']
   simpa using h
 rw [e,e,e,e]
 generalize k.w0.toNat=a
 generalize k.w1.toNat=b
 generalize k.w2.toNat=c
 generalize k.w3.toNat=d
 by_cases h:a=0/\b=0/\c=0/\d=0
 ·obtain ⟨rfl,rfl,rfl,rfl⟩:=h
  rfl
 ·have h1:¬(a+18446744073709551616*(b+18446744073709551616*(c+18446744073709551616*d))=0):=λh1=>h (by omega)
  have h2:Nat.beq (a+18446744073709551616*(b+18446744073709551616*(c+18446744073709551616*d))) 0=false:=by
   cases hb:Nat.beq (a+18446744073709551616*(b+18446744073709551616*(c+18446744073709551616*d))) 0
   ·rfl
   ·exact absurd (aX hb) h1
  rw [h2]
  by_cases ha:a=0
  ·by_cases hb:b=0
   ·by_cases hc:c=0
    ·have hd:¬d=0:=λhd=>h ⟨ha,hb,hc,hd⟩
     simp [hd]
    ·simp [hc]
   ·simp [hb]
  ·simp [ha]
theorem axv (k:ab):aHa k=Nat.beq (k.nat%2) 1:=by
 have e:(k.w0&&&1).toNat=k.w0.toNat%2:=by
  rw [UInt64.toNat_and]
  exact Nat.and_two_pow_sub_one_eq_mod k.w0.toNat 1
 have e2:k.nat%2=k.w0.toNat%2:=by
  unfold Sx.ab.nat
  rw [abG]
 rw [e2,<-e]
 unfold aHa
 by_cases h:k.w0&&&1=1
 ·rw [h];rfl
 ·have h':¬(k.w0&&&1).toNat=1:=λh'=>h (UInt64.toNat_inj.1 h')
  have h2:Nat.beq (k.w0&&&1).toNat 1=false:=by
   cases hb:Nat.beq (k.w0&&&1).toNat 1
   ·rfl
   ·exact absurd (aX hb) h'
  rw [h2]
  simpa using h
theorem Wm (k:ab):(hJ k).nat=k.nat/2:=by
 have:=iX k
 exact nQ (by omega)
def axi (p:Nat):Nat->ab->ab->ab->ab
 |0,o,_,_=>o
 |n+1,o,x,k=>cond (bJ k) o (axi p n (cond (aHa k) (aQ p o x) o) (aQ p x x) (hJ k))
def aAu (p:Nat):Nat->Nat->Nat->Nat->Nat
 |0,o,_,_=>o
 |n+1,o,x,k=>cond (Nat.beq k 0) o (aAu p n (cond (Nat.beq (k%2) 1) (o*x%p) o) (x*x%p) (k/2))
theorem apT {p:Nat} (hp:0<p/\p<57896044618658097711785492504343953926634992332820282019728792003956564819968):∀ (n:Nat) (o x k:ab),axi p n o x k=ofN (aAu p n o.nat x.nat k.nat)
 |0,o,x,k=>(AG o).symm
 |n+1,o,x,k=>by
  have e:∀ a b:ab,(aQ p a b).nat=a.nat*b.nat%p:=λa b=>cL hp
  simp only [axi,aAu,dM,axv]
  cases Nat.beq k.nat 0
  ·simp only [bo]
   rw [apT hp n,e,Wm]
   cases Nat.beq (k.nat%2) 1
   ·rfl
   ·simp only [aV,e]
  ·simp only [aV]
   exact (AG o).symm
def lQ (p:Nat) (a k:ab):ab:=cond (Nat.beq p 0) ⟨0,0,0,0⟩ (ofN (aAu p 256 1 (a.nat%p) k.nat))
theorem RF {p:Nat} (hp:0<p) (a k:ab):lQ p a k=ofN (aAu p 256 1 (a.nat%p) k.nat):=by
 unfold lQ
 cases p with
 |zero=>exact absurd hp (Nat.lt_irrefl _)
 |succ p=>rfl
def wA:af:=⟨Lb,[],true,0,false⟩
abbrev ac5:Type:=K6
def aEj:Shape:=⟨40,[dC,rB,(6,fu),(7,fH),(9,B2)],[fV,oR,kW,(3,Oo),BV],0,true⟩
abbrev jj:Type:=(Unit×K2)×ao×ao×ao×Mf×tY
def Bp:Shape:=⟨40,[jx,(9,oV)],mN,0,true⟩
abbrev DU:Type:=mH
def aEl (c0:ao) (c1:ao) (c2:ao) (c3_0:UInt64) (c3_1:UInt64) (c3_2:UInt64) (c3_3:UInt64) (c3_4:Int) (c3_5:UInt64) (c3_6:UInt64) (c3_7:UInt64) (c3_8:UInt64) (c3_9:UInt64) (c3_10:UInt64) (c4:ao):OT (Sum jj aT):=
 let z0:Nat:=List.length c1
 let z1:Bool:=decide (4<=z0)
 let z2:UInt64:=List.getD c1 0 0
 let z3:UInt64:=List.getD c1 1 0
 let z4:UInt64:=List.getD c1 2 0
 let z5:UInt64:=List.getD c1 3 0
 let z6:Nat:=List.length c4
 let z7:Nat:=List.length c0
 let z8:Bool:=decide (4<=z7)
 let z9:ab:= {w0:=c3_0,w1:=c3_1,w2:=c3_2,w3:=c3_3}
 let z10:iD:=(z9,c3_4,c3_5,c3_6,{w0:=c3_7,w1:=c3_8,w2:=c3_9,w3:=c3_10})
 let z11:ab:= {w0:=List.getD c4 0 0,w1:=List.getD c4 1 0,w2:=List.getD c4 2 0,w3:=List.getD c4 3 0}
 let z12:ab:= {w0:=List.getD c0 0 0,w1:=List.getD c0 1 0,w2:=List.getD c0 2 0,w3:=List.getD c0 3 0}
 let z13:rq:=(z12,())
 let z14:Bool:=gy ((z10,z12,z13),())
 let z15:Bool:=decide ((4/1:Nat)+0<=z7)
 let z16:Bool:=decide ((4/1:Nat)+0<=z0)
 let z17:Nat:=ab.nat z9
 let z18:ab:=aQ z17 z12 z12
 let z19:ao:=List.set (List.set (List.set (List.set c0 0 z18.w0) 1 z18.w1) 2 z18.w2) 3 z18.w3
 let z20:ab:=hJ {w0:=z2,w1:=z3,w2:=z4,w3:=z5}
 let z21:ao:=List.set (List.set (List.set (List.set c1 0 z20.w0) 1 z20.w1) 2 z20.w2) 3 z20.w3
 let z22:ab:=aQ z17 z11 z12
 (gd [z1] (.br (!(z2==(0:UInt64)&&(z3==(0:UInt64)&&(z4==(0:UInt64)&&(z5==(0:UInt64)&&true)))))
 (gd [decide (0<z0)] (.br (z2&&&(1:UInt64)==(1:UInt64))
  (gd [decide (4<=z6),z8,gy ((z10,z11,z13),()),decide ((4/1:Nat)+0<=z6),z8,z8,z14,z15,z1,z16] (.ok (.inl (((),(),(),(),(),()),z19,z21,c2,(c3_0,c3_1,c3_2,c3_3,c3_4,c3_5,c3_6,c3_7,c3_8,c3_9,c3_10,()),List.set (List.set (List.set (List.set c4 0 z22.w0) 1 z22.w1) 2 z22.w2) 3 z22.w3,()))))
  (gd [z8,z8,z14,z15,z1,z16] (.ok (.inl (((),(),(),(),(),()),z19,z21,c2,(c3_0,c3_1,c3_2,c3_3,c3_4,c3_5,c3_6,c3_7,c3_8,c3_9,c3_10,()),c4,()))))))
 (.ok (.inr ⟨(.exit 0,Bp),(((),(),()),c2,c4,())⟩))))
def Ry (s:jj):OT (Sum jj aT):=aEl s.2.1 s.2.2.1 s.2.2.2.1 s.2.2.2.2.1.1 s.2.2.2.2.1.2.1 s.2.2.2.2.1.2.2.1 s.2.2.2.2.1.2.2.2.1 s.2.2.2.2.1.2.2.2.2.1 s.2.2.2.2.1.2.2.2.2.2.1 s.2.2.2.2.1.2.2.2.2.2.2.1 s.2.2.2.2.1.2.2.2.2.2.2.2.1 s.2.2.2.2.1.2.2.2.2.2.2.2.2.1 s.2.2.2.2.1.2.2.2.2.2.2.2.2.2.1 s.2.2.2.2.1.2.2.2.2.2.2.2.2.2.2.1 s.2.2.2.2.2.1
def asB (g0_0:jj->DU) (s:jj):OT aT:=(.ok ⟨(.exit 0,Bp),g0_0 s⟩)
def DT:aH:=⟨fG,[],false⟩
section
variable (ok0:jj->Bool) (g0_0:jj->DU)
def aAX (a0:Int) (a1:ab) (a2:ab):OT wA.Y:=
 let z0:iD:=numOf (Int.toNat a0)
 let z1:=z0.fst
 let z2:ab:=ofN (ab.nat a1%ab.nat z1)
 let z3:=z0.snd
 let z4:=z3.snd
 let z5:=z4.snd
 let z6:=z5.snd
 let z7:jj:=(((),(),(),(),(),()),[z2.w0,z2.w1,z2.w2,z2.w3],[a2.w0,a2.w1,a2.w2,a2.w3],[(0:UInt64),(0:UInt64),(0:UInt64),(0:UInt64)],(z1.w0,z1.w1,z1.w2,z1.w3,z3.fst,z4.fst,z5.fst,z6.w0,z6.w1,z6.w2,z6.w3,()),[(1:UInt64),(0:UInt64),(0:UInt64),(0:UInt64)],())
 let z8:=(g0_0 z7).snd
 let z9:=z8.snd.fst
 let z10:=z8.fst
 let z11:ao:=lay z10 z9 4 (0:UInt64)
 (.br (ac a0)
 (gd [gQ ((z0,a1,()),()),ok0 z7,decide (4<=List.length z9),decide ((4/1:Nat)+0<=List.length z10),decide (4<=List.length z11)] (.ok ⟨DT,(({w0:=List.getD z11 0 0,w1:=List.getD z11 1 0,w2:=List.getD z11 2 0,w3:=List.getD z11 3 0},()),())⟩))
 (.ok ⟨DT,(({w0:=0,w1:=0,w2:=0,w3:=0},()),())⟩))
theorem asy (h0:aY Ry ok0 (asB g0_0)) (pre:ac5->Bool) (F:ac5->OT wA.Y) (hF:∀ (x:ac5) oy,pre x=true->(F x).run=some oy->(aAX ok0 g0_0 x.1.1 x.1.2.1 x.1.2.2.1).run=some oy):aa ag 69 (wA.aw pre F):=
 cC zE 69 Tryz.f69 wA [DT] (js zE 0 aEj [(0,Bp)] none none Ry bw h0 bw) (λx=>aAX ok0 g0_0 x.1.1 x.1.2.1 x.1.2.2.1) hF
end
theorem asz {x0 x1 x2 x3 x5 x6 x7 x8 x9 x10:UInt64} {x4:Int} {c2:List UInt64} (hn:kJ (⟨x0,x1,x2,x3⟩,x4,x5,x6,⟨x7,x8,x9,x10⟩)=true):∀ (n:Nat) (o x k:ab),k.nat<2^n->
 ∃ m,cx Ry m (((),(),(),(),(),()),lst x,lst k,c2,(x0,x1,x2,x3,x4,x5,x6,x7,x8,x9,x10,()),lst o,())=some ⟨(.exit 0,Bp),(((),(),()),c2,lst (axi (ab.mk x0 x1 x2 x3).nat n o x k),())⟩:=by
 intro n
 induction n with
 |zero=>
  intro o x k hk
  have hz:(!bJ k)=false:=by
   rw [dM,show k.nat=0 by omega]
   rfl
  exact ⟨1,aO ((ae rfl).trans (OT.al hz))⟩
 |succ n ih=>
  intro o x k hk
  cases hz:bJ k
  ·have hk2:(hJ k).nat<2^n:=by
    rw [Wm]
    rw [Nat.pow_succ] at hk
    omega
   have hz':(!bJ k)=true:=by rw [hz];rfl
   cases ho:aHa k
   ·obtain ⟨m,hm⟩:=ih o (aQ (ab.mk x0 x1 x2 x3).nat x x) (hJ k) hk2
    simp only [axi,hz,ho,bo]
    refine ⟨m+1,aS ?_ hm⟩
    refine (ae rfl).trans ((OT.ak hz').trans ((ae rfl).trans ((OT.al ho).trans ((ae ?_).trans rfl))))
    simp only [ax,aA,aC,av]
    exact ⟨rfl,rfl,hn,rfl,rfl,rfl⟩
   ·obtain ⟨m,hm⟩:=ih (aQ (ab.mk x0 x1 x2 x3).nat o x) (aQ (ab.mk x0 x1 x2 x3).nat x x) (hJ k) hk2
    simp only [axi,hz,ho,bo,aV]
    refine ⟨m+1,aS ?_ hm⟩
    refine (ae rfl).trans ((OT.ak hz').trans ((ae rfl).trans ((OT.ak ho).trans ((ae ?_).trans rfl))))
    simp only [ax,aA,aC,av]
    exact ⟨rfl,rfl,hn,rfl,rfl,rfl,hn,rfl,rfl,rfl⟩
  ·simp only [axi,hz,aV]
   have hz':(!bJ k)=false:=by rw [hz];rfl
   exact ⟨1,aO ((ae rfl).trans (OT.al hz'))⟩
def aH5 (s:jj):Mh:=(⟨s.2.2.2.2.1.1,s.2.2.2.2.1.2.1,s.2.2.2.2.1.2.2.1,s.2.2.2.2.1.2.2.2.1⟩,s.2.2.2.2.1.2.2.2.2.1,s.2.2.2.2.1.2.2.2.2.2.1,s.2.2.2.2.1.2.2.2.2.2.2.1,⟨s.2.2.2.2.1.2.2.2.2.2.2.2.1,s.2.2.2.2.1.2.2.2.2.2.2.2.2.1,s.2.2.2.2.1.2.2.2.2.2.2.2.2.2.1,s.2.2.2.2.1.2.2.2.2.2.2.2.2.2.2.1⟩)
def Rx (s:jj):Bool:=kJ (aH5 s)&&decide (s.2.1.length=4/\s.2.2.1.length=4/\s.2.2.2.2.2.1.length=4)
def asA (s:jj):DU:=(((),(),()),s.2.2.2.1,lst (axi (aH5 s).1.nat 256 (elemOf s.2.2.2.2.2.1) (elemOf s.2.1) (elemOf s.2.2.1)),())
theorem aEk:aY Ry Rx (asB asA):=by
 rintro ⟨⟨⟨⟩,⟨⟩,⟨⟩,⟨⟩,⟨⟩,⟨⟩⟩,⟨c0,c1,c2,⟨x0,x1,x2,x3,x4,x5,x6,x7,x8,x9,x10,⟨⟩⟩,c4,⟨⟩⟩⟩ h
 simp only [Rx,av,decide_eq_true_eq,aH5] at h
 obtain ⟨hn,h0,h1,h4⟩:=h
 obtain ⟨x,rfl⟩:∃ a,c0=lst a:=⟨elemOf c0,(bY h0).symm⟩
 obtain ⟨k,rfl⟩:∃ a,c1=lst a:=⟨elemOf c1,(bY h1).symm⟩
 obtain ⟨o,rfl⟩:∃ a,c4=lst a:=⟨elemOf c4,(bY h4).symm⟩
 obtain ⟨m,hm⟩:=asz (c2:=c2) hn 256 o x k (iX k)
 exact ⟨m,_,hm,rfl⟩
def ahj (_:ac5):Bool:=true
def aAY (x:ac5):OT wA.Y:=.br (ac x.1.1) (.ok ⟨DT,((lQ (pS x.1.1) x.1.2.1 x.1.2.2.1,()),())⟩) (.ok ⟨DT,((⟨0,0,0,0⟩,()),())⟩)
theorem ayT {p:Nat} (hp:0<p/\p<57896044618658097711785492504343953926634992332820282019728792003956564819968) (a k:ab):elemOf (lay [0,0,0,0] (lst (axi p 256 ⟨1,0,0,0⟩ (ofN (a.nat%p)) k)) 4 0)=lQ p a k:=by
 rw [aIo _ _ rfl rfl,amQ,apT hp,cL hp,RF hp.1]
 rfl
theorem asx:aa ag 69 (wA.aw ahj aAY):=asy Rx asA aEk _ _ λx oy hp ho=>by
 rw [<-ho]
 clear ho
 obtain ⟨⟨s,a,k,⟨⟩⟩,⟨⟩⟩:=x
 cases hs:ac s
 ·exact (OT.al hs).trans (OT.al (b:=ac s) hs).symm
 ·have hn:=iW hs
  have hfin:=ayT (gU hs) a k
  have hn2:kJ (numOf s.toNat)=true:=hn
  refine (OT.ak hs).trans (Eq.trans ?_ (OT.ak (b:=ac s) hs).symm)
  simp only [<-hfin]
  refine (ae ?_).trans rfl
  simp only [ax,aA,aC,av]
  refine ⟨hn,?_,rfl,rfl,rfl⟩
  show (kJ _&&decide _)=true
  rw [av]
  exact ⟨hn,aj ⟨rfl,rfl,rfl⟩⟩
def JX:bi:=(wA.aw ahj aAY)
theorem amD:aa ag 69 JX:=asx
theorem amC:au JX:=aq
def aB4:Env:=ap 69 JX Y6
theorem ajb:bI ag te aB4:=aP follows zE amD amC
def wz:af:=⟨Om,[],true,0,false⟩
abbrev acY:Type:=Oj
def qv:aH:=⟨jz,[],false⟩
def aAV (a0:Int) (a1:ab):OT wz.Y:=
 let z0:Bool:=ac a0
 let z1:iD:=numOf (Int.toNat a0)
 let z2:=z1.fst
 let z3:ab:=ofN (ab.nat a1%ab.nat z2)
 let z4:ab:= {w0:=0,w1:=0,w2:=0,w3:=0}
 (.br (z0)
 (gd [gQ ((z1,a1,()),())] (.br (z3.w0==(0:UInt64)&&(z3.w1==(0:UInt64)&&(z3.w2==(0:UInt64)&&(z3.w3==(0:UInt64)&&true))))
  (.ok ⟨qv,((z4,(10:Int),()),())⟩)
  (.br (z0)
   (.ok ⟨qv,((lQ (pS a0) a1 (ka z2 {w0:=2,w1:=0,w2:=0,w3:=0}).fst,(0:Int),()),())⟩)
   (.ok ⟨qv,((z4,(0:Int),()),())⟩))))
 (.ok ⟨qv,((z4,(20:Int),()),())⟩))
theorem ast (pre:acY->Bool) (F:acY->OT wz.Y) (hF:∀ (x:acY) oy,pre x=true->(F x).run=some oy->(aAV x.1.1 x.1.2.1).run=some oy):aa ag 68 (wz.aw pre F):=
 cC ajb 68 Tryz.f68 wz [qv] bw (λx=>aAV x.1.1 x.1.2.1) hF
def anI (p:Nat) (a:ab):ab:=ofN (aAu p 256 1 (a.nat%p) (p-2))
theorem aFU {s:Int} (h:ac s=true):2<=pS s:=by
 rcases b6 h with rfl|rfl|rfl|rfl<;>decide+kernel
theorem aD6 {s:Int} (h:ac s=true) (a:ab):lQ (pS s) a (ka (numOf s.toNat).1 ⟨2,0,0,0⟩).1=anI (pS s) a:=by
 rw [RF (gU h).1]
 unfold anI
 have h2:2<=(numOf s.toNat).1.nat:=aFU h
 rw [o4 (show (ab.mk 2 0 0 0).nat<=_ from h2)]
 rfl
theorem avS {p:Nat} (hp:0<p/\p<57896044618658097711785492504343953926634992332820282019728792003956564819968) (n:Nat):bJ (ofN (n%p))=Nat.beq (n%p) 0:=by
 rw [dM,cL hp]
def ahi (_:acY):Bool:=true
def aAW (x:acY):OT wz.Y:=.br (ac x.1.1) (.br (Nat.beq (x.1.2.1.nat%pS x.1.1) 0) (.ok ⟨qv,((⟨0,0,0,0⟩,(10:Int),()),())⟩) (.ok ⟨qv,((anI (pS x.1.1) x.1.2.1,(0:Int),()),())⟩))
 (.ok ⟨qv,((⟨0,0,0,0⟩,(20:Int),()),())⟩)
theorem ass:aa ag 68 (wz.aw ahi aAW):=ast _ _ λx oy hp ho=>by
 rw [<-ho]
 clear ho
 obtain ⟨⟨s,a,⟨⟩⟩,⟨⟩⟩:=x
 cases hs:ac s
 ·exact (OT.al hs).trans (OT.al (b:=ac s) hs).symm
 ·have hz:bJ (ofN (a.nat%pS s))=Nat.beq (a.nat%pS s) 0:=avS (gU hs) _
  refine (OT.ak hs).trans (Eq.trans ((ae ?_).trans ?_) (OT.ak (b:=ac s) hs).symm)
  ·simp only [ax,aA,aC]
   exact iW hs
  ·cases hb:Nat.beq (a.nat%pS s) 0
   ·rw [hb] at hz
    refine (OT.al hz).trans ((OT.ak hs).trans (Eq.trans ?_ (OT.al rfl).symm))
    simp only [aD6 hs]
   ·rw [hb] at hz
    exact (OT.ak hz).trans (OT.ak rfl).symm
def JU:bi:=(wz.aw ahi aAW)
theorem amw:aa ag 68 JU:=ass
theorem amv:au JU:=aq
def aB3:Env:=ap 68 JU aB4
theorem aja:bI ag te aB3:=aP follows ajb amw amv
def qO:af:=⟨ic,[],true,0,false⟩
abbrev Ko:Type:=mG
def jp:aH:=⟨[dY,kZ],[],false⟩
def ahG (a0:Int):OT qO.Y:=
 let z0:ab:= {w0:=5,w1:=0,w2:=0,w3:=0}
 let z1:ab:= {w0:=0,w1:=0,w2:=0,w3:=0}
 (.br (a0==(0:Int))
 (.ok ⟨jp,(({w0:=23,w1:=0,w2:=0,w3:=0},true,()),())⟩)
 (.br (a0==(1:Int))
  (.ok ⟨jp,(({w0:=21,w1:=0,w2:=0,w3:=0},true,()),())⟩)
  (.br (a0==(2:Int))
   (.br (a0==(2:Int))
    (.ok ⟨jp,((z0,true,()),())⟩)
    (.ok ⟨jp,((z1,false,()),())⟩))
   (.br (a0==(3:Int))
    (.ok ⟨jp,((z0,true,()),())⟩)
    (.ok ⟨jp,((z1,false,()),())⟩)))))
theorem adF (pre:Ko->Bool) (F:Ko->OT qO.Y) (hF:∀ (x:Ko) oy,pre x=true->(F x).run=some oy->(ahG x.1.1).run=some oy):aa ag 110 (qO.aw pre F):=
 cC aja 110 Tryz.f110 qO [jp] bw (λx=>ahG x.1.1) hF
def bOf:Nat->ab
 |0=>⟨23,0,0,0⟩
 |1=>⟨21,0,0,0⟩
 |_=>⟨5,0,0,0⟩
abbrev bS (s:Int):ab:=bOf s.toNat
def N3 (_:Ko):Bool:=true
def ahH (x:Ko):OT qO.Y:=.br (ac x.1.1) (.ok ⟨jp,((bS x.1.1,true,()),())⟩) (.ok ⟨jp,((⟨0,0,0,0⟩,false,()),())⟩)
theorem atv:aa ag 110 (qO.aw N3 ahH):=adF _ _ λx oy _ ho=>by
 rw [<-ho]
 clear ho
 obtain ⟨⟨s,⟨⟩⟩,⟨⟩⟩:=x
 cases hs:ac s
 ·obtain ⟨h0,h1,h2,h3⟩:=uA hs
  exact (OT.al h0).trans ((OT.al h1).trans ((OT.al h2).trans ((OT.al h3).trans (OT.al (b:=ac s) hs).symm)))
 ·rcases b6 hs with h|h|h|h
  all_goals
   have h:s=_:=h
   subst h
   rfl
def yY:bi:=(qO.aw N3 ahH)
theorem XB:aa ag 110 yY:=atv
theorem XA:au yY:=aq
def ajk:Env:=ap 110 yY aB3
theorem ON:bI ag te ajk:=aP follows aja XB XA
def Kl:af:=⟨[],[],true,0,false⟩
abbrev atm:Type:=bQ
def adx:aH:=⟨oP,[],false⟩
def aA9:OT Kl.Y:=
 let z0:ab:= {w0:=0,w1:=0,w2:=0,w3:=0}
 (.ok ⟨adx,(((z0,z0,true),()),())⟩)
theorem atl (pre:atm->Bool) (F:atm->OT Kl.Y) (hF:∀ (x:atm) oy,pre x=true->(F x).run=some oy->(aA9).run=some oy):aa ag 111 (Kl.aw pre F):=
 cC ON 111 Tryz.f111 Kl [adx] bw (λx=>aA9) hF
def aK:cM:=(⟨0,0,0,0⟩,⟨0,0,0,0⟩,true)
def ahE (_:atm):Bool:=true
def aBa (_:atm):OT Kl.Y:=.ok ⟨adx,((aK,()),())⟩
theorem aEN:aa ag 111 (Kl.aw ahE aBa):=atl _ _ λx oy _ ho=>ho
def Kk:bi:=(Kl.aw ahE aBa)
theorem am6:aa ag 111 Kk:=aEN
theorem am5:au Kk:=aq
def aB9:Env:=ap 111 Kk ajk
theorem ajj:bI ag te aB9:=aP follows ON am6 am5
end
end Go.Proofs.YthnnknnbfhkomaaGreat
