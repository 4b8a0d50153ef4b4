/- A symbolic machine for Go code over plain data, and functions of the program as it shows them. No statement is proved in this file. -/
import Derived.Recover
import Derived.KernelRfl
import Derived.Test.YthnnknnbfhkomaaGreatProg
import Derived.Laws.Externs
import Derived.Lib.Mul64
import Derived.Test.YthnnknnbfhkomaaGreatXb
set_option linter.unusedSimpArgs false
set_option linter.unusedVariables false
set_option linter.unusedSectionVars false
namespace Go.Proofs.YthnnknnbfhkomaaGreat
section
namespace Sx
open Go
theorem akr {R:Ctx} {w:World} (hm:cz R w) {c e:Nat} {t:Ty} {xs:List t.T} (hc:R.hp c=some ⟨e,.row t xs⟩) {n:Nat} (hn:n<=xs.length):
 ∃ R1,R.Ext R1/\cz R1 w/\R1.hp=cO R.hp [(c,⟨e+1,.row t (xs.take n)⟩)]/\∀ v,R.part c e 0 n v->R1.own c (e+1) v:=by
 have h0:=hm.ch c _ hc
 have hlen:(xs.take n).length=n:=by grind
 have hx:R.Ext (R.upd c ⟨e+1,.row t (xs.take n)⟩):=⟨λ_ _ h=>h,rfl,λc' ch' hc'=>by
  grind [Ctx.upd]⟩
 have hnew:(R.upd c ⟨e+1,.row t (xs.take n)⟩).hp c=some ⟨e+1,.row t (xs.take n)⟩:=by grind [Ctx.upd]
 refine ⟨R.upd c ⟨e+1,.row t (xs.take n)⟩,hx,?_,rfl,λv hv=> ?_⟩
 ·cases hσ:R.σ c with
  |none=>
   simp only [eW,hσ] at h0
   obtain ⟨hpos,hl,rfl⟩:=h0
   refine cz.turn hm hx rfl rfl (λ_ _=>rfl) w.heap.size (by grind) ⟨hm.MJ,hm.MG,λn ch L hn h1 h2 h3=> ?_⟩ ?_ (λL h2=> ?_)
   ·have:=hm.lt h1 h2 h3;omega
   ·grind [eW,Ctx.upd]
   ·have h2:R.σ c=some L:=h2
    grind
  |some L=>
   simp only [eW,hσ] at h0
   obtain ⟨hpos,hl,hF,hU,arr,E,k1,k2,k3,k4⟩:=h0
   refine cz.turn hm hx rfl rfl (λ_ _=>rfl) L.block (by grind) ⟨hF,hU,λm ch L' hne h1 h2 h3 hb=> ?_⟩ ?_ (λL' h2=> ?_)
   ·exact hne (hm.apart m c ch _ L' L h1 hc h2 rfl h3 hσ hb)
   ·simp only [eW,Ctx.upd,hσ]
    refine ⟨hpos,by grind,hF,hU,arr,E,k1,k2,?_,λi hi=> ?_⟩
    ·rw [hlen]
     exact cT (ck _ hn) k3
    ·grind
   ·have h2:R.σ c=some L':=h2
    grind
 ·obtain ⟨h1,h2,ad,cap,rfl,h4,h5⟩:=Ctx.cK hc hv
  refine ⟨_,hnew,Nat.le_refl _,λ_=>⟨_,hnew,Nat.le_refl _,λ_=>⟨rfl,?_,ad,cap,?_,?_,?_⟩⟩⟩
  ·simp
  ·show Value.slice ad n cap=.slice ad (xs.take n).length cap
   rw [hlen]
  ·show (xs.take n).length<=cap
   omega
  ·exact h5
def ahz:List SV->Option (Nat×Nat×Nat)
 | []=>none
 |.part c e 0 n::_=>some (c,e,n)
 |_::r=>ahz r
def KJ:List SV->List SV
 | []=> []
 |.part c e 0 _::r=>.own c (e+1)::r
 |x::r=>x::KJ r
def asN (K:SV->Hp->Prop) (l r:List SV) (hp:Hp):Prop:=match ahz l with
 |some (c,e,n)=>match eu hp c e with
  |some (.row t xs)=>cond (Nat.ble n xs.length) (K (.tup (.agg (KJ l)::r)) (cO hp [(c,⟨e+1,.row t (xs.take n)⟩)])) False
  |_=>False
 |none=>K (.tup (.agg l::r)) hp
def aEt (K:SV->Hp->Prop) (v:SV) (hp:Hp):Prop:=match v with
 |.tup (.agg l::r)=>asN K l r hp
 |v=>K v hp
theorem amM {K K':SV->Hp->Prop} (h:∀ v hp,K v hp->K' v hp) {l r:List SV} {hp:Hp} (hk:asN K l r hp):asN K' l r hp:=by
 unfold asN at hk⊢
 split at hk
 ·grind
 grind
theorem asM {K K':SV->Hp->Prop} (h:∀ v hp,K v hp->K' v hp) {v:SV} {hp:Hp} (hk:aEt K v hp):aEt K' v hp:=by
 unfold aEt at hk⊢
 grind [amM]
theorem Oo {R R1:Ctx} (hx:R.Ext R1) {c e n:Nat} (ho:∀ v,R.part c e 0 n v->R1.own c (e+1) v):∀ {l:List SV} {vs:List Value},ahz l=some (c,e,n)->SV.bz R l vs->SV.bz R1 (KJ l) vs
 | [],_,h,_=>by cases h
 |x::l,vs,h,hr=>by
  obtain ⟨v,r,rfl,hv,hr⟩:=hr
  unfold ahz at h
  split at h
  ·grind
  ·grind [SV.rel,KJ,SV.bz,SV.eZ]
  ·rename_i x' r' hno h1
   cases h1
   have e1:KJ (x::l)=x::KJ l:=KJ.eq_3 _ _ hno
   rw [e1]
   exact ⟨v,r,rfl,SV.aaB hx _ _ hv,Oo hx ho h hr⟩
theorem aEs {R:Ctx} {w:World} {K:SV->Hp->Prop} {v:SV} {u:Value} (hm:cz R w) (hv:SV.rel R v u) (hk:aEt K v R.hp):∃ v' R1,R.Ext R1/\cz R1 w/\SV.rel R1 v' u/\K v' R1.hp:=by
 unfold aEt at hk
 split at hk
 ·unfold asN at hk
  split at hk
  ·rename_i c e n hc
   split at hk
   ·rename_i t xs hg
    cases hb:Nat.ble n xs.length
    ·grind
    ·rw [hb] at hk
     obtain ⟨R1,a1,a2,a3,a4⟩:=akr hm (bT hg) (Nat.le_of_ble_eq_true hb)
     refine ⟨_,R1,a1,a2,?_,by rw [a3];exact hk⟩
     obtain ⟨vs,rfl,v1,r1,rfl,⟨us,rfl,h1,h2⟩,h3⟩:=hv
     exact ⟨_,rfl,_,r1,rfl,⟨us,rfl,Oo a1 a4 hc h1,h2⟩,SV.eZ a1 _ _ h3⟩
   grind
  grind [Ctx.Ext.refl]
 grind [Ctx.Ext.refl]
section
variable {P:Program} {te:TE} {Φ:Env} (hte:kq P te) (hΦ:oa P Φ) (hany:Gi P te Φ)
include hte hΦ hany
theorem aDZ {f:FuncId} {fn:Func} {c:Code} (hf:P.funcs[f]? =some fn) (hb:fn.body=some c) (hname:(fn.name== "runtime.NumGoroutine")=false) {S:af} {k:Nat} (hk:S.chunks.all (λc=>Nat.blt c.1 k&& !c.2.iO)=true) {Λ:Lam}
 (hΛ:∀ R,Small R k->rJ P R Λ c) {n:Nat} {pre:S.T->Bool} {F:S.T->OT S.Y}
 (h:∀ x oy,pre x=true->(F x).run=some oy->∃ K,wpf te Φ Λ n fn (S.inp.inj x).tm (S.inp.inj x).hp K (λ_ _=>False)/\(∀ v hp,K v hp->aEt (λv hp=>oy.1.is oy.2 false v hp) v hp)):aa P f (S.az pre F):=by
 refine ⟨?_⟩
 intro R w d args vs out hm hr hrun
 refine .inl ⟨fn,hf,hname,(by grind),?_⟩
 simp [af.az] at hrun
 split at hrun
 ·cases hrun
 ·rename_i x hx
  obtain ⟨hpre,h2⟩:=OT.aE hrun
  obtain ⟨oy,h3,h4⟩:=OT.run_bind h2
  unfold af.emit at h4
  obtain ⟨hend,h5⟩:=OT.aE h4
  obtain ⟨K,hwp,hK1⟩:=h x oy hpre h3
  have hx':=hx
  unfold Shape.prj at hx'
  dsimp only at hx'
  cases hbo:S.inp.Lr ⟨args,R.hp⟩ (S.inp.bd ⟨args,R.hp⟩)&&Nat.beq args.length S.inp.n
  ·grind
  ·rw [hbo] at hx'
   rw [aw] at hbo
   obtain ⟨hx1,hx2⟩:=aW hx'
   have hlen:args.length=S.inp.n:=aY hbo.2
   have hN:=GD (s:=S.inp) (st:=⟨args,R.hp⟩) (F':=R.Bt (S.inp.bd ⟨args,R.hp⟩) S.bI w) (U':=R.GP (S.inp.bd ⟨args,R.hp⟩) S.bI w) hbo.1 hx2 rfl hm (JK hm) (DL hm) ab7 (JJ hm) JI aq0 hm.env
   have hargs:SV.bz (R.named (R.Bt (S.inp.bd ⟨args,R.hp⟩) S.bI w) (R.GP (S.inp.bd ⟨args,R.hp⟩) S.bI w) (S.inp.bd ⟨args,R.hp⟩) (dO S.chunks x.2)) (S.inp.inj x).tm vs:=
    kA (s:=S.inp) (st:=⟨args,R.hp⟩) hbo.1 hx2 rfl hm (JK hm) (DL hm) hr hx1 (SV.pC (by grind [SV.aN]) λi hi hi'=>by simp [SV.rel])
   have hsm:Small (R.named (R.Bt (S.inp.bd ⟨args,R.hp⟩) S.bI w) (R.GP (S.inp.bd ⟨args,R.hp⟩) S.bI w) (S.inp.bd ⟨args,R.hp⟩) (dO S.chunks x.2)) k:=λc ch hc=>by
    obtain ⟨s,y',g1,g2,g3⟩:=dS hx2 (hc:dO S.chunks x.2 c=some ch)
    have:=(List.all_eq_true.1 hk) _ g1
    simp only [aw] at this
    refine ⟨dI this.1,?_⟩
    rw [g3]
    cases s<;>first|rfl|(cases this.2)
   refine (Hj hte hΦ hany hf hb (hΛ _ hsm) rfl hN hargs hwp).mono λen w' hp=> ?_
   rcases hp with ⟨y,v,R₁,rfl,hx1,hm1,hv,hy⟩|⟨y,v,R₁,rfl,hx1,hm1,hv,hy⟩
   ·replace hy:=hK1 _ _ hy
    obtain ⟨y2,R₂,b1,b2,b4,hy⟩:=aEs hm1 hv hy
    obtain ⟨R',a1,a2⟩:=ahc hm hx hk (hx1.trans b1) b2 b4 hy hend
    rw [hy.1] at h5
    cases h5
    exact ⟨v,R',rfl,a1,a2⟩
   grind
def aHB (S:af) (sel:SV->Option aL) (Q:S.Y->Prop) (v:SV) (hp:Hp):Prop:=aEt (fnK S sel Q) v hp
theorem ayo {f:FuncId} {fn:Func} {c:Code} (hf:P.funcs[f]? =some fn) (hb:fn.body=some c) (hname:(fn.name== "runtime.NumGoroutine")=false) {S:af} {k:Nat} (hk:S.chunks.all (λc=>Nat.blt c.1 k&& !c.2.iO)=true) {Λ:Lam}
 (hΛ:∀ R,Small R k->rJ P R Λ c) {n:Nat} {sel:SV->Option aL} (hsel:∀ v o,sel v=some o->o.pan=false) {pre:S.T->Bool} {F T:S.T->OT S.Y}
 (h:∀ x Q,wpf te Φ Λ n fn (S.inp.inj x).tm (S.inp.inj x).hp (aHB S sel Q) (λ_ _=>False)=(T x).wpR Q)
 (hF:∀ x oy,pre x=true->(F x).run=some oy->(T x).run=some oy):aa P f (S.az pre F):=by
 refine aDZ hte hΦ hany hf hb hname hk hΛ (n:=n) λx oy hp hr=>⟨aHB S sel (λz=>z=oy),?_,λv hp hq=> ?_⟩
 ·grind [OT.ES,OT.iV]
 ·refine asM (λv hp hq=> ?_) hq
  unfold fnK at hq
  split at hq
  ·rename_i o ho
   split at hq
   ·rename_i y hy
    subst hq
    exact ⟨(by grind),hy⟩
   grind
  grind
end
end Sx
end
section
namespace Sx
open Go
def aEn:Code->Option (Array Oper×(List Oper×Call))
 |.region _ ops false=>match ops.toList.getLast? with
  |some o=>match o.op,o.guard,o.dst with
   |.defer c,none,none=>some (ops,(ops.toList.dropLast,c))
   |_,_,_=>none
  |none=>none
 |_=>none
def ayN (st:St) (c:Call):Option (FuncId×List SV):=match c.callee with
 |.value x=>match st.eval x with
  |.fn (.func f) first caps=>some (f,first++c.args.toList.map st.eval++caps)
  |_=>none
 |_=>none
def aEV (te:TE) (Φ:Env):Nat->Code->List (FuncId×Nat)->List SV->St->(Code->List (FuncId×Nat)->List SV->St->Prop)->Prop:=
 λm=>Nat.rec (motive:=λ_=>Code->List (FuncId×Nat)->List SV->St->(Code->List (FuncId×Nat)->List SV->St->Prop)->Prop) (λc fs gs st K=>K c fs gs st)
  (λ_ go c fs gs st K=>match c with
   |.seq a b=>match aEn a with
    |some d=>mG te Φ d.1.toList (λe st'=>match e with
     |.normal=>match ayN st' d.2.2 with
      |some (f,l)=>go b ((f,l.length)::fs) (l++gs) st' K
      |none=>False
     |_=>False) d.2.1 st
    |none=>match a with
     |.region _ ops false=>mG te Φ ops.toList (λe st'=>match e with
      |.normal=>go b fs gs st' K
      |_=>False) ops.toList st
     |_=>False
   |_=>False) m
structure anx where
 f:FuncId
 t:TypeId
 T:TypeId
 g:Func
 gf:FuncId
def Fq (te:TE) (Φ:Env) (n:Nat) (r:anx) (fn:Func) (K Kp:SV->Hp->Prop) (fs:List (FuncId×Nat)):List SV->Option SV->St->Prop:=
 List.rec (motive:=λ_=>List SV->Option SV->St->Prop)
  (λ_ m st=>match m with
   |none=>AR te fn st λv=>K v st.hp
   |some v=>Kp v st.hp)
  (λd _ go gs m st=>match Nat.beq d.1 r.f with
   |true=>match gs with
    |p::gs'=>ifB (Nat.beq d.2 1) (match m with
     |none=>go gs' none st
     |some v=>match v with
      |.iface t (.agg [.int x])=>ifB (Nat.beq t r.t) (match te r.T with
       |some ti=>ifB (Nat.beq ti.size 1) ((storeCells st.hp [.int x] p).wp λu=>go gs' none ⟨st.tm,cO st.hp u⟩) False
       |none=>False) False
      |_=>False) False
    | []=>False
   |false=>ifB (Nat.beq d.1 r.gf) (wpf te Φ fR n r.g (gs.take d.2) st.hp (λ_ hp=>go (gs.drop d.2) m ⟨st.tm,hp⟩) (λ_ _=>False)) False) fs
def aFc (te:TE) (Φ:Env) (Λ:Lam) (n:Nat) (r:anx) (m:Nat) (D:Shape) (fn:Func) (args:List SV) (hp:Hp) (K Kp:SV->Hp->Prop):Prop:=
 match fn.body with
 |none=>False
 |some c=>aEV te Φ m c [] [] ⟨args++List.replicate (fn.ntmps-args.length) .undef,hp⟩ λrest fs gs st=>D.on ⟨st.tm++gs,st.hp⟩ λx=>
  wps te Φ Λ n rest ⟨(D.inj x).tm.take st.tm.length,(D.inj x).hp⟩ λe st'=>match e with
   |.normal|.ret=>Fq te Φ n r fn K Kp fs ((D.inj x).tm.drop st.tm.length) none st'
   |.pan v=>Fq te Φ n r fn K Kp fs ((D.inj x).tm.drop st.tm.length) (some v) st'
   |.exit _=>False
theorem alC {te:TE} {Φ:Env} {n:Nat} {r:anx} {fn:Func} {K Kp:SV->Hp->Prop} {gs:List SV} {m:Option SV} {st:St}:Fq te Φ n r fn K Kp [] gs m st=(match m with
 |none=>AR te fn st λv=>K v st.hp
 |some v=>Kp v st.hp):=rfl
theorem abK {te:TE} {Φ:Env} {n:Nat} {r:anx} {fn:Func} {K Kp:SV->Hp->Prop} {f:FuncId} {k:Nat} {fs:List (FuncId×Nat)} {gs:List SV} {m:Option SV} {st:St}:Fq te Φ n r fn K Kp ((f,k)::fs) gs m st=(match Nat.beq f r.f with
 |true=>match gs with
  |p::gs'=>ifB (Nat.beq k 1) (match m with
   |none=>Fq te Φ n r fn K Kp fs gs' none st
   |some v=>match v with
    |.iface t (.agg [.int x])=>ifB (Nat.beq t r.t) (match te r.T with
     |some ti=>ifB (Nat.beq ti.size 1) ((storeCells st.hp [.int x] p).wp λu=>Fq te Φ n r fn K Kp fs gs' none ⟨st.tm,cO st.hp u⟩) False
     |none=>False) False
    |_=>False) False
  | []=>False
 |false=>ifB (Nat.beq f r.gf) (wpf te Φ fR n r.g (gs.take k) st.hp (λ_ hp=>Fq te Φ n r fn K Kp fs (gs.drop k) m ⟨st.tm,hp⟩) (λ_ _=>False)) False):=rfl
theorem avA {te:TE} {Φ:Env} {m:Nat} {x y:Code} {fs:List (FuncId×Nat)} {gs:List SV} {st:St} {K:Code->List (FuncId×Nat)->List SV->St->Prop}:aEV te Φ (m+1) (.seq x y) fs gs st K=(match aEn x with
 |some d=>mG te Φ d.1.toList (λe st'=>match e with
  |.normal=>match ayN st' d.2.2 with
   |some (f,l)=>aEV te Φ m y ((f,l.length)::fs) (l++gs) st' K
   |none=>False
  |_=>False) d.2.1 st
 |none=>match x with
  |.region _ ops false=>mG te Φ ops.toList (λe st'=>match e with
   |.normal=>aEV te Φ m y fs gs st' K
   |_=>False) ops.toList st
  |_=>False):=rfl
structure LO (P:Program) (r:anx):Prop where
 fn:∃ fn,P.funcs[r.f]? =some fn/\(fn.name== "runtime.NumGoroutine")=false/\fn.body.isNone=false
 ret:∀ (v:Value) (w:World),CallsD P r.f #[v] .returning w λe u' w'=>e=.returned (.tuple #[])/\u'=.returning/\w'=w
 pan:∀ (ad:Addr) (x:Int) (w w':World),(storeVar r.T ad (.int .i64 x)).run P w=.ok () w'->
  CallsD P r.f #[.pointer (some ad)] (.panicking [{v:=.iface r.t (.agg #[.int .i64 x]),recovered:=false}]) w λe u' w''=>e=.returned (.tuple #[])/\u'=.panicking [{v:=.iface r.t (.agg #[.int .i64 x]),recovered:=true}]/\w''=w'
 gfn:P.funcs[r.gf]? =some r.g/\(r.g.name== "runtime.NumGoroutine")=false/\r.g.body.isNone=false
section
variable {P:Program} {te:TE} {Φ:Env}
def rD (R:Ctx):List (FuncId×Nat)->List SV->List Deferred->Prop
 | [],_,ds=>ds= []
 |(f,n)::fs,gs,ds=>∃ d r vs cap,ds=d::r/\d.target=.fn (.func f) cap/\d.args++cap=vs.toArray/\SV.bz R (gs.take n) vs/\rD R fs (gs.drop n) r
theorem rD.grow {R R':Ctx} (hx:R.aFa R'):∀ {fs:List (FuncId×Nat)} {gs:List SV} {ds:List Deferred},rD R fs gs ds->rD R' fs gs ds
 | [],_,_,h=>h
 |(f,n)::fs,gs,ds,⟨d,r,vs,cap,h1,h2,h3,h4,h5⟩=>⟨d,r,vs,cap,h1,h2,h3,SV.kv hx _ _ h4,rD.grow hx h5⟩
theorem rD.flat {R:Ctx}:∀ {fs:List (FuncId×Nat)} {gs:List SV} {ds:List Deferred},gs.length=(fs.map (·.2)).sum->rD R fs gs ds->∃ vs,SV.bz R gs vs/\∀ R' gs',gs'.length=gs.length->SV.bz R' gs' vs->rD R' fs gs' ds
 | [],gs,ds,hl,h=>by
  have:gs= []:=(by grind)
  subst this
  exact ⟨[],uR,λ_ _ _ _=>h⟩
 |(f,n)::fs,gs,ds,hl,⟨d,r,vs,cap,h1,h2,h3,h4,h5⟩=>by
  simp at hl
  obtain ⟨us,k1,k2⟩:=rD.flat (gs:=gs.drop n) (by grind) h5
  refine ⟨vs++us,by have:=SV.bA h4 k1;simp_all,λR' gs' hl' hr=> ?_⟩
  have hv:vs.length=n:=by grind [SV.aN,bQ]
  have t1:=SV.cX hr n
  have t2:=SV.cY hr n
  rw [List.take_left' hv] at t1
  exact ⟨d,r,vs,cap,h1,h2,h3,t1,(by grind)⟩
theorem aEm {st:St} {R:Ctx} {a:Act} {w:World} (hst:iT R st a w) {o:Oper} {c:Call} (ho:o.op=.defer c) {f:FuncId} {l:List SV} (h:ayN st c=some (f,l)):
 ∃ d vs cap,(execOp a.eval o).run P w=.ok (.defer d) w/\d.target=.fn (.func f) cap/\d.args++cap=vs.toArray/\SV.bz R l vs:=by
 unfold ayN at h
 split at h
 ·rename_i x hx
  split at h
  ·rename_i g first caps hv
   cases h
   have e:=kn hst x
   rw [hv] at e
   obtain ⟨l1,l2,e1,e2,e3⟩:=e
   refine ⟨{target:=.fn (.func f) l2.toArray,args:=l1.toArray++c.args.map a.eval},l1++c.args.toList.map a.eval++l2,l2.toArray,?_,rfl,?_,SV.bA (SV.bA e2 (Ia hst _)) e3⟩
   ·simp_all [execOp,resolve,Deferred.ofValue]
   simp
  grind
 ·grind
theorem NQ {f:FuncId} {fn:Func} (hf:P.funcs[f]? =some fn) (hn:(fn.name== "runtime.NumGoroutine")=false) (hb:fn.body.isNone=false) {cap args vs:Array Value} (he:args++cap=vs) (w:World):
 (invoke (.fn (.func f) cap) args).run P w=.ok (.enter f vs) w:=by
 have f3':¬fn.body=none:=λe=>by grind
 simp_all [invoke,callFunc]
def aBt (R:Ctx):Option SV->FrameMode->Prop
 |none,u=>u=.returning
 |some v,u=>∃ y,u=.panicking [{v:=y,recovered:=false}]/\SV.rel R v y
theorem iT.same {R:Ctx} {st:St} {a:Act} {w:World} (l:List Deferred) (h:iT R st a w):iT (R.put l) st {a with defers:=l} w:=⟨h.hp,aaO l h.mem,Gy l h.tm,rfl⟩
theorem aDe {R R':Ctx} (l:List Deferred) (h:R.Ext R'):(R.put l).Ext (R'.put l):=⟨h.F,by show (⟨R'.U.blk,R'.U.env,l⟩:Gf)=⟨R.U.blk,R.U.env,l⟩;rw [h.U],h.ch⟩
variable (hte:kq P te) (hΦ:oa P Φ) (hany:Gi P te Φ)
include hte hΦ hany
theorem j2 {r:anx} (hr:LO P r) {n:Nat} {fn:Func} {K Kp:SV->Hp->Prop} {R₀:Ctx}:∀ (fs:List (FuncId×Nat)) (gs:List SV) (ds:List Deferred) (m:Option SV) (u:FrameMode) (R:Ctx) (st:St) (a:Act) (w:World),R₀.Ext R->
 iT R st a w->rD R fs gs ds->aBt R m u->R.U.dfs= []->Fq te Φ n r fn K Kp fs gs m st->Leaves P fn a.tmps (FV R₀ K Kp) ds u w
 | [],gs,ds,m,u,R,st,a,w,hx,hst,hd,hu,h0,h=>by
  cases hd
  rw [alC] at h
  cases m with
  |none=>
   cases hu
   obtain ⟨x,v,h1,h2,h3⟩:=ki hte hst h
   exact ⟨v,h3,.inl ⟨x,v,R,rfl,hx,hst.mem,h2,by rw [hst.hp];exact h1⟩⟩
  |some sv=>
   obtain ⟨y,rfl,hy⟩:=hu
   exact .inr ⟨sv,y,R,rfl,hx,hst.mem,hy,by rw [hst.hp];exact h⟩
 |(f,k)::fs,gs,ds,m,u,R,st,a,w,hx,hst,hd,hu,h0,h=>by
  obtain ⟨d,rd,vs,cap,rfl,hd1,hd2,hd3,hd4⟩:=hd
  obtain ⟨dt,da⟩:=d
  simp only at hd1 hd2
  subst hd1
  have hur:u≠ .run:=by
   cases m with
   |none=>cases hu;exact λe=>by cases e
   |some v=>obtain ⟨y,rfl,_⟩:=hu;exact λe=>by cases e
  rw [abK] at h
  simp only [We] at h
  cases hb:Nat.beq f r.f
  ·rw [hb] at h
   simp only at h
   cases hg:Nat.beq f r.gf
   ·rw [hg] at h;exact h.elim
   ·rw [hg,aK] at h
    have e:=aY hg
    subst e
    obtain ⟨g1,g2,g3⟩:=hr.gfn
    cases hbd:r.g.body with
    |none=>rw [hbd] at g3;cases g3
    |some c=>
     rw [<-hst.hp] at h
     have hw:=azL hte hΦ hany hbd (λp _ l hl=>by cases hl) h0 hst.mem hd3 h
     refine leaves_cons hur (NQ g1 g2 g3 hd2 w) ((callsD_of_wp (u:=u) g1 hbd hw).mono λe u' w' hp=> ?_)
     obtain ⟨rfl,hp⟩:=hp
     rcases hp with ⟨x,v,R',rfl,hx1,hm1,hv,hk⟩|⟨_,_,_,_,_,_,_,hk⟩
     ·have hu':aBt R' m u':=by
       cases m with
       |none=>exact hu
       |some sv=>obtain ⟨y,h1,h2⟩:=hu;exact ⟨y,h1,SV.aaB hx1 _ _ h2⟩
      have hs:settle u'=u':=by
       cases m with
       |none=>cases hu;rfl
       |some sv=>obtain ⟨y,rfl,_⟩:=hu;rfl
      simp only [hs]
      exact j2 hr fs _ rd m u' R' ⟨st.tm,R'.hp⟩ a w' (hx.trans hx1) ⟨rfl,hm1,SV.eZ hx1 _ _ hst.tm,by rw [hx1.U];exact hst.defers⟩ (hd4.grow hx1.grow) hu' (by rw [hx1.U];exact h0) hk
     ·exact hk.elim
  ·rw [hb] at h
   simp only at h
   have e:=aY hb
   subst e
   obtain ⟨rfn,g1,g2,g3⟩:=hr.fn
   cases gs with
   |nil=>exact h.elim
   |cons p gs'=>
    simp only at h
    cases hk1:Nat.beq k 1
    ·rw [hk1] at h;exact h.elim
    ·have ek:=aY hk1
     subst ek
     obtain ⟨v,rfl,hv⟩:=bY hd3
     refine leaves_cons hur (NQ g1 g2 g3 hd2 w) ?_
     cases m with
     |none=>
      cases hu
      refine (hr.ret v w).mono λe u' w' hp=> ?_
      obtain ⟨rfl,rfl,rfl⟩:=hp
      exact j2 hr fs gs' rd none _ R st a w' hx hst hd4 rfl h0 h
     |some sv=>
      obtain ⟨y,rfl,hy⟩:=hu
      simp only at h
      split at h
      ·rename_i t x
       cases ht:Nat.beq t r.t
       ·rw [ht] at h;exact h.elim
       ·rw [ht,aK] at h
        have et:=aY ht
        subst et
        split at h
        ·rename_i ti hT
         cases hz:Nat.beq ti.size 1
         ·rw [hz] at h;exact h.elim
         ·rw [hz,aK] at h
          obtain ⟨up,q1,q2⟩:=OT.Hk h
          obtain ⟨y',rfl,vs,rfl,hvs,_⟩:=hy
          obtain ⟨z,rfl,hz2⟩:=bY hvs
          obtain ⟨rfl,hin⟩:=hz2
          rw [<-hst.hp] at q1
          obtain ⟨ad,w',R',rfl,s1,s2⟩:=wL (P:=P) (y:=.int x) (u:=.int .i64 x) (l:= [.int x]) hst.mem hte hT hv (by grind [SV.rel]) rfl (by rw [aY hz];rfl) q1
          refine (hr.pan ad x w w' s1).mono λe u' w'' hp=> ?_
          obtain ⟨rfl,rfl,rfl⟩:=hp
          exact j2 hr fs gs' rd none _ R' _ a w'' (hx.trans s2.ext) (hst.TG s2) (hd4.grow s2.ext.grow) rfl (by rw [s2.ext.U];exact h0) q2
        ·exact h.elim
      ·exact h.elim
omit hte hΦ hany in
theorem NI {α:Type}:∀ {l:List α} {o:α},l.getLast? =some o->l=l.dropLast++ [o]
 | [a],o,h=>by cases h;rfl
 |a::b::r,o,h=>congrArg (a:: ·) (NI (l:=b::r) h)
omit hany in
theorem xm {R₀:Ctx} {ops:Array Oper} {o:Oper} {K:St->Prop} {Q:Exit->Act->World->Prop} (hK:∀ R st a w,R₀.Ext R->iT R st a w->K st->wpList P ops Q [o] a w):
 ∀ (l:List Oper) (R:Ctx) (st:St) (a:Act) (w:World),R₀.Ext R->iT R st a w->io te Φ ops.toList (λe st=>match e with
  |.normal=>K st
  |_=>False) l st->wpList P ops Q (l++ [o]) a w
 | [],R,st,a,w,hx,hst,h=>hK R st a w hx hst h
 |o'::r,R,st,a,w,hx,hst,h=>by
  simp only [io] at h
  split at h
  ·exact h.elim
  ·rename_i b hb
   have hw:=gg hst hb
   simp only [List.cons_append,wpList,hw]
   cases b
   ·simp only [Bool.false_eq_true,if_false]
    exact xm hK r R _ _ w hx (hst.undef o'.dst) h
   ·simp only [if_true]
    refine .inl ?_
    obtain ⟨out,h1,h2⟩:=OT.Hk h
    refine mc hte hΦ hst h1 ?_
    cases out with
    |ret e=>exact λR' w' v ha hv=>xm hK r R' _ _ w' (hx.trans ha.ext) (hst.put ha hv o'.dst) h2
    |pan sv u=>exact h2.elim
omit hany in
theorem CF {bl:List (Nat×Code)} {R₀:Ctx} {K:Code->List (FuncId×Nat)->List SV->St->Prop} {Q:Exit->Act->World->Prop}
 (hK:∀ (c:Code) (fs:List (FuncId×Nat)) (gs:List SV) (ds:List Deferred) (R:Ctx) (st:St) (a:Act) (w:World),(R₀.put ds).Ext R->iT R st a w->gs.length=(fs.map (·.2)).sum->rD R fs gs ds->(∀ p ∈ blocks c,p ∈ bl)->K c fs gs st->c.wp P Q a w):
 ∀ (m:Nat) (c:Code) (fs:List (FuncId×Nat)) (gs:List SV) (ds:List Deferred) (R:Ctx) (st:St) (a:Act) (w:World),(R₀.put ds).Ext R->iT R st a w->gs.length=(fs.map (·.2)).sum->rD R fs gs ds->(∀ p ∈ blocks c,p ∈ bl)->aEV te Φ m c fs gs st K->c.wp P Q a w
 |0,c,fs,gs,ds,R,st,a,w,hx,hst,hl,hd,hbl,h=>hK c fs gs ds R st a w hx hst hl hd hbl h
 |m+1,c,fs,gs,ds,R,st,a,w,hx,hst,hl,hd,hbl,h=>by
  cases c<;>try (exact False.elim h;done)
  case seq x y=>
   rw [avA] at h
   have hbl':∀ p ∈ blocks y,p ∈ bl:=λp hp=>hbl p (by simp [blocks,hp])
   refine wp_seq ?_
   split at h
   ·rename_i d hc
    unfold aEn at hc
    split at hc
    ·rename_i id ops
     split at hc
     ·rename_i o ho
      split at hc
      ·rename_i c' h1 h2 h3
       cases hc
       rw [ma] at h
       refine wp_region_list ?_
       rw [show ops.toList=ops.toList.dropLast++ [o] from NI ho]
       refine xm hte hΦ (λR' st a w hx' hst h=> ?_) ops.toList.dropLast R st a w (Ctx.Ext.refl R) hst h
       replace hd:=hd.grow hx'.grow
       replace hx:=hx.trans hx'
       split at h
       ·rename_i f l hf
        obtain ⟨d,vs,cap,e1,e2,e3,e4⟩:=aEm (P:=P) hst h1 hf
        have hw:Region.wanted o (yielded ops a.tmps)=true:=by unfold Region.wanted;rw [h2]
        simp only [wpList,hw,if_true]
        refine .inl ?_
        unfold Oper.wp
        rw [e1,Oper.upon_defer,h3]
        have hde:a.defers=ds:=by rw [hst.defers,hx.U];rfl
        have:=hst.same (d::ds)
        refine CF hK m y _ _ (d::ds) (R'.put (d::ds)) st _ w ?_ (by rw [hde];exact this) (by simp only [bK,List.map_cons,List.sum_cons,hl]) ?_ hbl' h
        ·refine ⟨hx.F,?_,hx.ch⟩
         show (⟨R'.U.blk,R'.U.env,d::ds⟩:Gf)=⟨R₀.U.blk,R₀.U.env,d::ds⟩
         rw [hx.U]
         rfl
        ·refine ⟨d,ds,vs,cap,rfl,e2,e3,?_,?_⟩
         ·rw [List.take_left' rfl];exact Gy _ e4
         ·rw [List.drop_left' rfl];exact hd.grow (uS R' _)
       ·exact h.elim
      ·cases hc
     ·cases hc
    ·cases hc
   ·split at h
    ·rename_i id ops
     rw [ma] at h
     refine wp_region_list (lA (R₀:=R) hte hΦ (K:=λe st'=>match e with
      |.normal=>aEV te Φ m y fs gs st' K
      |_=>False) ⟨?_,?_,?_,?_⟩ _ R st a w (Ctx.Ext.refl R) hst h)
     ·exact λR' st' a' w' hx' hst' hk=>CF hK m y fs gs ds R' st' a' w' (hx.trans hx') hst' hl (hd.grow hx'.grow) hbl' hk
     ·exact λR' st' a' w' hx' hst' hk=>hk.elim
     ·exact λR' st' a' w' id hx' hst' hk=>hk.elim
     ·exact λR' st' a' w' sv v hx' hst' hv hk=>hk.elim
    ·exact h.elim
theorem ajF {r:anx} (hr:LO P r) {f:FuncId} {fn:Func} {c:Code} (hf:P.funcs[f]? =some fn) (hb:fn.body=some c) {R₀:Ctx} {D:Shape} (hD:D.chunks.all (λc=>Nat.blt c.1 D.chunks.length&& !c.2.iO)=true) (hs:Small R₀ D.fixed) {Λ:Lam}
 {m:Nat} (hΛ:∀ R,Small R D.chunks.length->rJ P R Λ c) {w:World} {n:Nat}
 {args:List SV} {vs:List Value} {K Kp:SV->Hp->Prop} (hd:R₀.U.dfs= []) (hm:cz R₀ w) (ha:SV.bz R₀ args vs) (h:aFc te Φ Λ n r m D fn args R₀.hp K Kp):Calls P f vs.toArray w (FV R₀ K Kp):=by
 unfold aFc at h
 rw [hb] at h
 refine calls_of_wp_defers hf hb (CF (bl:=blocks c) hte hΦ (R₀:=R₀) ?_ m c [] [] [] R₀ _ _ w ?_ ⟨rfl,hm,?_,hd.symm⟩ rfl rfl (λ_ h=>h) h)
 ·intro rest fs gs ds R st a w hx hst hl hdo hbl hk
  obtain ⟨us,k1,k2⟩:=hdo.flat hl
  have hlen:=SV.aN hst.tm
  have hst2:iT R ⟨st.tm++gs,st.hp⟩ {tmps:=(a.tmps.toList++us).toArray,defers:=a.defers} w:=⟨hst.hp,hst.mem,by simpa using SV.bA hst.tm k1,hst.defers⟩
  unfold Shape.on at hk
  split at hk
  ·rename_i x hq
   obtain ⟨R',q1,q2⟩:=Shape.aG4 (R₀:=R₀.put ds) hs hx hst2 hq
   have hsm:Small R' D.chunks.length:=λc ch hc=>by
    rw [q2.hp] at hc
    unfold Shape.prj at hq
    dsimp only at hq
    cases hbo:D.Lr ⟨st.tm++gs,st.hp⟩ (D.bd ⟨st.tm++gs,st.hp⟩)&&Nat.beq (st.tm++gs).length D.n
    ·grind
    ·rw [hbo] at hq
     obtain ⟨_,hx2⟩:=aW hq
     obtain ⟨s,y',g1,g2,g3⟩:=dS hx2 (hc:dO D.chunks x.2 c=some ch)
     have:=(List.all_eq_true.1 hD) _ g1
     simp only [aw] at this
     refine ⟨dI this.1,?_⟩
     rw [g3]
     cases s<;>first|rfl|(cases this.2)
   have ht:SV.bz R' (D.inj x).tm (a.tmps.toList++us):=by simpa using q2.tm
   have t1:=SV.cX ht st.tm.length
   have t2:=SV.cY ht st.tm.length
   rw [List.take_left' hlen] at t1
   rw [List.drop_left' hlen] at t2
   have hgl:((D.inj x).tm.drop st.tm.length).length=gs.length:=by rw [<-SV.aN t2,SV.aN k1]
   have hdo2:=k2 R' _ hgl t2
   have hback:∀ {R'':Ctx},R'.Ext R''->R₀.Ext (R''.put []):=λ{R''} e=>by
    have e1:(R₀.put ds).put []=R₀:=by
     obtain ⟨F,U,σ,hp⟩:=R₀
     obtain ⟨b,en,l⟩:=U
     cases hd
     rfl
    have:=aDe [] (q1.trans e)
    grind
   have hdef:∀ {R'':Ctx} {st':St} {a':Act} {w':World},R'.Ext R''->iT R'' st' a' w'->a'.defers=ds:=λe h=>by rw [h.defers,e.U,q1.U];rfl
   refine rN (R₀:=R') (st:=⟨(D.inj x).tm.take st.tm.length,(D.inj x).hp⟩) (a:=a) hte hΦ hany (λp hp=>hΛ R' hsm p (hbl p hp)) (Ctx.Ext.refl R') ⟨q2.hp,q2.mem,t1,q2.defers⟩ hk ⟨?_,?_,?_,?_⟩
   ·intro R'' st' a' w' e hst' hk'
    show Leaves P fn a'.tmps _ a'.defers _ w'
    rw [hdef e hst']
    exact j2 hte hΦ hany hr fs _ ds none _ (R''.put []) st' {tmps:=a'.tmps,defers:= []} w' (hback e) (hst'.same []) ((hdo2.grow e.grow).grow (uS _ _)) rfl rfl hk'
   ·intro R'' st' a' w' e hst' hk'
    show Leaves P fn a'.tmps _ a'.defers _ w'
    rw [hdef e hst']
    exact j2 hte hΦ hany hr fs _ ds none _ (R''.put []) st' {tmps:=a'.tmps,defers:= []} w' (hback e) (hst'.same []) ((hdo2.grow e.grow).grow (uS _ _)) rfl rfl hk'
   ·simp
   ·intro R'' st' a' w' sv v e hst' hv hk'
    show Leaves P fn a'.tmps _ a'.defers _ w'
    rw [hdef e hst']
    exact j2 hte hΦ hany hr fs _ ds (some sv) _ (R''.put []) st' {tmps:=a'.tmps,defers:= []} w' (hback e) (hst'.same []) ((hdo2.grow e.grow).grow (uS _ _)) ⟨v,rfl,aps _ hv⟩ rfl hk'
  grind
 ·have e1:R₀.put []=R₀:=by
   obtain ⟨F,U,σ,hp⟩:=R₀
   obtain ⟨b,en,l⟩:=U
   cases hd
   rfl
  grind [Ctx.Ext.refl]
 grind [SV.aN,Array.toList_append,List.size_toArray,SV.bA,SV.pC,SV.rel]
theorem ayp {f:FuncId} {fn:Func} {c:Code} (hf:P.funcs[f]? =some fn) (hb:fn.body=some c) (hname:(fn.name== "runtime.NumGoroutine")=false) {S:af} {k:Nat} (hk:S.chunks.all (λc=>Nat.blt c.1 k&& !c.2.iO)=true) {Λ:Lam}
 (hΛ:∀ R,Small R k->rJ P R Λ c) {n:Nat} {outs pans:List aL} (hsel:(outs.all (λo=> !o.pan)&&pans.all λo=>o.pan)=true) {pre:S.T->Bool} {F T:S.T->OT S.Y}
 (h:∀ x Q,wpf te Φ Λ n fn (S.inp.inj x).tm (S.inp.inj x).hp (acM S outs Q) (acM S pans Q)=(T x).wpR Q)
 (hF:∀ x oy,pre x=true->(F x).run=some oy->(T x).run=some oy):aa P f (S.az pre F):=by
 rw [aw] at hsel
 refine ays hte hΦ hany hf hb hname hk hΛ (n:=n) λx oy hp hr=>⟨acM S outs (λz=>z=oy),acM S pans (λz=>z=oy),?_,λv hp hq=> ?_,λv hp hq=> ?_⟩
 ·grind [OT.ES,OT.iV]
 ·obtain ⟨o,ho,y,hy,hQ⟩:=tH hq
  subst hQ
  exact ⟨by grind,hy⟩
 ·obtain ⟨o,ho,y,hy,hQ⟩:=tH hq
  subst hQ
  exact ⟨(by grind),hy⟩
theorem ayr {r:anx} (hr:LO P r) {f:FuncId} {fn:Func} {c:Code} (hf:P.funcs[f]? =some fn) (hb:fn.body=some c) (hname:(fn.name== "runtime.NumGoroutine")=false) {S:af} {D:Shape}
 (hk:(S.chunks.all (λc=>Nat.blt c.1 D.fixed&& !c.2.iO)&&D.chunks.all (λc=>Nat.blt c.1 D.chunks.length&& !c.2.iO))=true) {Λ:Lam}
 (hΛ:∀ R,Small R D.chunks.length->rJ P R Λ c) {n m:Nat} {outs:List aL} (hsel:(outs.all λo=> !o.pan)=true) {pre:S.T->Bool} {F T:S.T->OT S.Y}
 (h:∀ x Q,aFc te Φ Λ n r m D fn (S.inp.inj x).tm (S.inp.inj x).hp (acM S outs Q) (λ_ _=>False)=(T x).wpR Q)
 (hF:∀ x oy,pre x=true->(F x).run=some oy->(T x).run=some oy):aa P f (S.az pre F):=by
 rw [aw] at hk
 refine arY (W:=λargs hp K Kp=>aFc te Φ Λ n r m D fn args hp K Kp) hf hb hname hk.1 (λR w args vs K Kp hsm hd hm ha hw=>ajF hte hΦ hany hr hf hb hk.2 hsm hΛ hd hm ha hw) λx oy hp hr=>⟨acM S outs (λz=>z=oy),λ_ _=>False,?_,λv hp hq=> ?_,(by simp)⟩
 ·grind [OT.ES,OT.iV]
 ·obtain ⟨o,ho,y,hy,hQ⟩:=tH hq
  subst hQ
  exact ⟨by grind,hy⟩
end
end Sx
end
section
namespace Sx
open Go
structure bU (P:Program) (te:TE) (Φ:Env):Prop where
 ty:kq P te
 ok:oa P Φ
 mono:ob Φ
 any:Gi P te Φ
section
variable {P:Program} {te:TE} {Φ:Env}
theorem aIi (hf:P.follows .mixedOrders=true) (ht:kq P te):bU P te ahs:=⟨ht,Xj,KE,aA7 hf ht Xj KE⟩
theorem aU (hf:P.follows .mixedOrders=true) (g:bU P te Φ) {f:FuncId} {s:bx} (h:aa P f s) (hm:ax s):bU P te (aq f s Φ):=
 ⟨g.ty,Oj h g.ok,FA hm g.mono,aA7 hf g.ty (Oj h g.ok) (FA hm g.mono)⟩
abbrev bh {σ:Type} (U:σ->OT (Sum σ aZ)) (ok:σ->Bool) (f:σ->OT aZ):Prop:=∀ s:σ,ok s=true->∃ m e,cU U m s=some e/\(f s).run=some e
def rC (P:Program) (k:Nat) (Λ:Lam) (c:Code):Prop:=∀ R,Small R k->rJ P R Λ c
theorem bE {k:Nat} {c:Code}:rC P k fR c:=λ_ _=>Bl
theorem agz (g:bU P te Φ) {k:Nat} {sh:Shape} {l:List (Nat×Shape)} {r:Option Shape} {p:Option (TypeId×Shape)} {Λ:Lam} {body:Code} (hk:(Nat.beq sh.fixed k&&((l.all λp=>Nat.beq p.2.fixed k)&&(r.all λs=>Nat.beq s.fixed k)&&p.all λq=>Nat.beq q.2.fixed k))=true)
 (hΛ:rC P k Λ body) {id:Nat} {T:sh.T->OT (Sum sh.T aZ)} (hT:∀ s Q,wps te Φ Λ 1000 body (sh.inj s) (PW sh (avy l r p) Q)=(T s).wpR Q) {ok:sh.T->Bool} {f:sh.T->OT aZ} (hf:bh T ok f) {R:Ctx} (hR:Small R k):
 Aj P R (.block id (.loop body)) (aqB sh id ok f):=by
 rw [aw] at hk
 exact aDF g.ty g.ok g.any (by rw [aY hk.1];exact hR) (ajz hk.2 hR) avx (hΛ R hR) hT hf
theorem kZ (g:bU P te Φ) {k:Nat} {c:Code} (id:Nat) (sh:Shape) (l:List (Nat×Shape)) (r:Option Shape) (p:Option (TypeId×Shape)) (T:sh.T->OT (Sum sh.T aZ)) {Λi Λ:Lam} {ok:sh.T->Bool} {f:sh.T->OT aZ} (inner:rC P k Λi (Jl c id)) (hf:bh T ok f) (rest:rC P k Λ c)
 (hd:distinct ((blocks c).map (·.1))=true:=by kernel_rfl) (hl:VO c id=true:=by kernel_rfl)
 (hk:(Nat.beq sh.fixed k&&((l.all λp=>Nat.beq p.2.fixed k)&&(r.all λs=>Nat.beq s.fixed k)&&p.all λq=>Nat.beq q.2.fixed k))=true:=by kernel_rfl)
 (hT:∀ s Q,wps te Φ Λi 1000 (Jl c id) (sh.inj s) (PW sh (avy l r p) Q)=(T s).wpR Q:=by intro s Q;kernel_rfl):rC P k (Q0 id (aqB sh id ok f) Λ) c:=
 λR hR=>NJ hd hl (agz g hk inner hT hf hR) (rest R hR)
structure aG2 (P:Program) (f:FuncId) (fn:Func):Prop where
 at_:P.funcs[f]? =some fn
 body:fn.body=some (mK fn)
 name:(fn.name== "runtime.NumGoroutine")=false
theorem dh (g:bU P te Φ) (f:FuncId) (fn:Func) (S:af) (outs:List aL) {Λ:Lam} (lam:rC P S.chunks.length Λ (mK fn)) {pre:S.T->Bool} {F:S.T->OT S.Y} (T:S.T->OT S.Y)
 (hF:∀ x oy,pre x=true->(F x).run=some oy->(T x).run=some oy) (hf:aG2 P f fn:=by constructor<;>kernel_rfl)
 (hk:S.chunks.all (λc=>Nat.blt c.1 S.chunks.length&& !c.2.iO)=true:=by kernel_rfl) (hsel:(outs.all λo=> !o.pan)=true:=by kernel_rfl)
 (h:∀ x Q,wpf te Φ Λ 1000 fn (S.inp.inj x).tm (S.inp.inj x).hp (acM S outs Q) (λ_ _=>False)=(T x).wpR Q:=by intro x Q;kernel_rfl):aa P f (S.az pre F):=
 ayq g.ty g.ok g.any hf.at_ hf.body hf.name hk lam hsel h hF
theorem aIj (g:bU P te Φ) (f:FuncId) (fn:Func) (S:af) (sel:SV->Option aL) {Λ:Lam} (lam:rC P S.chunks.length Λ (mK fn)) {pre:S.T->Bool} {F:S.T->OT S.Y} (T:S.T->OT S.Y)
 (hF:∀ x oy,pre x=true->(F x).run=some oy->(T x).run=some oy) (hf:aG2 P f fn:=by constructor<;>kernel_rfl)
 (hk:S.chunks.all (λc=>Nat.blt c.1 S.chunks.length&& !c.2.iO)=true:=by kernel_rfl) (hsel:∀ v o,sel v=some o->o.pan=false:=by intro v o h;cases h;rfl)
 (h:∀ x Q,wpf te Φ Λ 1000 fn (S.inp.inj x).tm (S.inp.inj x).hp (aHB S sel Q) (λ_ _=>False)=(T x).wpR Q:=by intro x Q;kernel_rfl):aa P f (S.az pre F):=
 ayo g.ty g.ok g.any hf.at_ hf.body hf.name hk lam hsel h hF
theorem aD0 (g:bU P te Φ) (f:FuncId) (fn:Func) (S:af) (outs pans:List aL) {Λ:Lam} (lam:rC P S.chunks.length Λ (mK fn)) {pre:S.T->Bool} {F:S.T->OT S.Y} (T:S.T->OT S.Y)
 (hF:∀ x oy,pre x=true->(F x).run=some oy->(T x).run=some oy) (hf:aG2 P f fn:=by constructor<;>kernel_rfl)
 (hk:S.chunks.all (λc=>Nat.blt c.1 S.chunks.length&& !c.2.iO)=true:=by kernel_rfl) (hsel:(outs.all (λo=> !o.pan)&&pans.all λo=>o.pan)=true:=by kernel_rfl)
 (h:∀ x Q,wpf te Φ Λ 1000 fn (S.inp.inj x).tm (S.inp.inj x).hp (acM S outs Q) (acM S pans Q)=(T x).wpR Q:=by intro x Q;kernel_rfl):aa P f (S.az pre F):=
 ayp g.ty g.ok g.any hf.at_ hf.body hf.name hk lam hsel h hF
theorem aH7 (g:bU P te Φ) {r:anx} (hr:LO P r) (m:Nat) (D:Shape) (f:FuncId) (fn:Func) (S:af) (outs:List aL) {Λ:Lam} (lam:rC P D.chunks.length Λ (mK fn)) {pre:S.T->Bool} {F:S.T->OT S.Y} (T:S.T->OT S.Y)
 (hF:∀ x oy,pre x=true->(F x).run=some oy->(T x).run=some oy) (hf:aG2 P f fn:=by constructor<;>kernel_rfl)
 (hk:(S.chunks.all (λc=>Nat.blt c.1 D.fixed&& !c.2.iO)&&D.chunks.all (λc=>Nat.blt c.1 D.chunks.length&& !c.2.iO))=true:=by kernel_rfl) (hsel:(outs.all λo=> !o.pan)=true:=by kernel_rfl)
 (h:∀ x Q,aFc te Φ Λ 1000 r m D fn (S.inp.inj x).tm (S.inp.inj x).hp (acM S outs Q) (λ_ _=>False)=(T x).wpR Q:=by intro x Q;kernel_rfl):aa P f (S.az pre F):=
 ayr g.ty g.ok g.any hr hf.at_ hf.body hf.name hk lam hsel h hF
end
end Sx
end
section
open Sx Go
set_option maxRecDepth 100000
noncomputable abbrev aj:=Tryz.prog
theorem aF {P:Program} {T:TypeId} {ti:TI} (h1:(P.info? T).isSome=true:=by kernel_rfl) (h4:((P.info? T).get h1).zero.isSome=true:=by kernel_rfl) (h10:(P.underlying T).isSome=true:=by kernel_rfl)
 (hs:Nat.beq ((P.info? T).get h1).size ti.size=true:=by kernel_rfl) (hb:Nat.beq ((P.info? T).get h1).bytes ti.bytes=true:=by kernel_rfl)
 (hz:(((P.info? T).get h1).zero.get h4).cells.toList.map Ff=ti.zero:=by kernel_rfl) (hc:((((P.info? T).get h1).zero.get h4).cells.toList.all Value.oneCell')=true:=by kernel_rfl)
 (hn:Nat.beq (((P.info? T).get h1).zero.get h4).cells.size ti.size=true:=by kernel_rfl) (h8:Nat.ble ti.size 16777216=true:=by kernel_rfl) (h9:(ti.desc.agg||Nat.beq ti.size 1)=true:=by kernel_rfl)
 (hd:aEo P T ((P.underlying T).get h10) ti.desc=true:=by kernel_rfl)
 (ht:match ti.ty with
  |none=>True
  |some t=>Nat.beq t.size ti.size=true/\(((P.info? T).get h1).zero.get h4).cells.toList=zeroCells t/\(!ti.desc.agg|| !P.eqGuardType P.depth T)=true:=by first|exact trivial|exact ⟨by kernel_rfl,by kernel_rfl,by kernel_rfl⟩):fe P T ti:=aCx h1 h4 h10 hs hb hz hc hn h8 h9 hd ht
def az5:TI:=⟨1,8,.other,[.gu],none⟩
def az4:TI:=⟨1,8,.int .i64,[.int 0],some .int⟩
def az3:TI:=⟨1,1,.bool,[.bool false],some .bool⟩
def az2:TI:=⟨1,1,.int .u8,[.u8 0],some .u8⟩
def az1:TI:=⟨1,16,.str,[.str []],some .str⟩
def aoO:TI:=⟨1,16,.iface,[.fD],none⟩
def aac:TI:=⟨1,24,.slice 27,[.emp],some (.list (.prod .elem (.prod .elem .bool)))⟩
def aoN:TI:=⟨1,8,.int .u64,[.u64 0],some .u64⟩
def C0:TI:=⟨4,32,.array 4 23,[.u64 0,.u64 0,.u64 0,.u64 0],some .elem⟩
def PQ:TI:=⟨9,72,.struct [(0,25),(4,25),(8,4)],[.u64 0,.u64 0,.u64 0,.u64 0,.u64 0,.u64 0,.u64 0,.u64 0,.bool false],some (.prod .elem (.prod .elem .bool))⟩
def aoM:TI:=⟨21,184,.struct [(0,3),(1,3),(2,22),(3,27),(12,27)],[.int 0,.int 0,.emp,.u64 0,.u64 0,.u64 0,.u64 0,.u64 0,.u64 0,.u64 0,.u64 0,.bool false,.u64 0,.u64 0,.u64 0,.u64 0,.u64 0,.u64 0,.u64 0,.u64 0,.bool false],some (.prod .int (.prod .int (.prod (.list (.prod .elem (.prod .elem .bool))) (.prod (.prod .elem (.prod .elem .bool)) (.prod .elem (.prod .elem .bool))))))⟩
def HO:TI:=⟨1,24,.slice 25,[.emp],some (.list .elem)⟩
def aoL:TI:=⟨2,32,.struct [(0,3),(1,30)],[.int 0,.emp],some (.prod .int (.list .elem))⟩
def aoK:TI:=⟨33,328,.struct [(0,29),(21,32),(23,30),(24,30),(25,25),(29,25)],[.int 0,.int 0,.emp,.u64 0,.u64 0,.u64 0,.u64 0,.u64 0,.u64 0,.u64 0,.u64 0,.bool false,.u64 0,.u64 0,.u64 0,.u64 0,.u64 0,.u64 0,.u64 0,.u64 0,.bool false,.int 0,.emp,.emp,.emp,.u64 0,.u64 0,.u64 0,.u64 0,.u64 0,.u64 0,.u64 0,.u64 0],some (.prod (.prod .int (.prod .int (.prod (.list (.prod .elem (.prod .elem .bool))) (.prod (.prod .elem (.prod .elem .bool)) (.prod .elem (.prod .elem .bool)))))) (.prod (.prod .int (.list .elem)) (.prod (.list .elem) (.prod (.list .elem) (.prod .elem .elem)))))⟩
def aoJ:TI:=⟨1,24,.slice 5,[.emp],some (.list .u8)⟩
def aoI:TI:=⟨1,8,.int .i64,[.int 0],some .int⟩
def aoH:TI:=⟨1,24,.slice 79,[.emp],some (.list (.prod .elem (.prod .elem (.prod .elem .bool))))⟩
def aoG:TI:=⟨1,8,.ptr [("Point",63),("Rest",24),("Scalar",71)],[.rK],none⟩
def aoF:TI:=⟨13,104,.struct [(0,25),(4,27)],[.u64 0,.u64 0,.u64 0,.u64 0,.u64 0,.u64 0,.u64 0,.u64 0,.u64 0,.u64 0,.u64 0,.u64 0,.bool false],some (.prod .elem (.prod .elem (.prod .elem .bool)))⟩
def aoE:TI:=⟨1,8,.ptr [("Bytes",37),("Point",92),("Scalar",94),("sigil/tape.say",136)],[.rK],none⟩
def aoD:TI:=⟨1,8,.ptr [("Next",90)],[.rK],none⟩
def afv:TI:=⟨1,16,.iface,[.fD],none⟩
def afu:TI:=⟨2,24,.struct [(0,3),(1,105)],[.int 0,.fD],none⟩
def aft:TI:=⟨3,48,.struct [(0,109),(2,37)],[.int 0,.fD,.emp],none⟩
def afs:TI:=⟨1,8,.ptr [],[.rK],none⟩
def afr:TI:=⟨1,8,.other,[.gu],none⟩
def afq:TI:=⟨1,8,.other,[.gu],none⟩
def afp:TI:=⟨1,8,.other,[.gu],none⟩
def afo:TI:=⟨11,88,.struct [(0,25),(4,3),(5,23),(6,23),(7,25)],[.u64 0,.u64 0,.u64 0,.u64 0,.int 0,.u64 0,.u64 0,.u64 0,.u64 0,.u64 0,.u64 0],some (.prod .elem (.prod .int (.prod .u64 (.prod .u64 .elem))))⟩
def afn:TI:=⟨1,8,.other,[.gu],none⟩
def afm:TI:=⟨1,8,.int .u64,[.u64 0],some .u64⟩
def afl:TI:=⟨3,48,.struct [(0,109),(2,37)],[.int 0,.fD,.emp],none⟩
def afk:TI:=⟨1,8,.ptr [("sigil/ipa.fold",139),("sigil/ipa.inner",164),("sigil/ipa.round",93),("sigil/ipa.side",138)],[.rK],none⟩
def afj:TI:=⟨33,328,.struct [(0,29),(21,3),(22,25),(26,30),(27,30),(28,22),(29,25)],[.int 0,.int 0,.emp,.u64 0,.u64 0,.u64 0,.u64 0,.u64 0,.u64 0,.u64 0,.u64 0,.bool false,.u64 0,.u64 0,.u64 0,.u64 0,.u64 0,.u64 0,.u64 0,.u64 0,.bool false,.int 0,.u64 0,.u64 0,.u64 0,.u64 0,.emp,.emp,.emp,.u64 0,.u64 0,.u64 0,.u64 0],some (.prod (.prod .int (.prod .int (.prod (.list (.prod .elem (.prod .elem .bool))) (.prod (.prod .elem (.prod .elem .bool)) (.prod .elem (.prod .elem .bool)))))) (.prod .int (.prod .elem (.prod (.list .elem) (.prod (.list .elem) (.prod (.list (.prod .elem (.prod .elem .bool))) .elem))))))⟩
def afi:TI:=⟨1,24,.struct [(0,30)],[.emp],some (.list .elem)⟩
def afh:TI:=⟨1,8,.other,[.gu],none⟩
def afg:TI:=⟨1,8,.ptr [("sigil/tape.next",220),("sigil/tape.take",221)],[.rK],none⟩
def aff:TI:=⟨2,32,.struct [(0,3),(1,155)],[.int 0,.emp],some (.prod .int (.list .elem))⟩
def afe:TI:=⟨1,8,.ptr [("Sum",162),("Write",161)],[.rK],none⟩
def afd:TI:=⟨1,8,.ptr [("sigil/tape.next",222),("sigil/tape.take",223)],[.rK],none⟩
def afc:TI:=⟨2,16,.struct [(0,3),(1,168)],[.int 0,.rK],none⟩
def Gq:TI:=⟨1,8,.struct [(0,40)],[.int 0],some .int⟩
def afb:TI:=⟨1,8,.ptr [("Challenge",65),("Curve",59)],[.rK],none⟩
def afa:TI:=⟨1,8,.other,[.gu],none⟩
def ae9:TI:=⟨1,8,.ptr [("Add",130),("Scale",224),("Value",131)],[.rK],none⟩
def ae8:TI:=⟨8,64,.array 8 23,[.u64 0,.u64 0,.u64 0,.u64 0,.u64 0,.u64 0,.u64 0,.u64 0],some (.arr 8 .u64)⟩
def ae7:TI:=⟨11,104,.struct [(0,3),(1,196),(9,37),(10,23)],[.int 0,.u64 0,.u64 0,.u64 0,.u64 0,.u64 0,.u64 0,.u64 0,.u64 0,.emp,.u64 0],some (.prod .int (.prod (.arr 8 .u64) (.prod (.list .u8) .u64)))⟩
def ae6:TI:=⟨16,16,.array 16 5,List.replicate 16 (.u8 0),some (.arr 16 .u8)⟩
def ae5:TI:=⟨2,32,.struct [(0,3),(1,51)],[.int 0,.emp],some (.prod .int (.list (.prod .elem (.prod .elem (.prod .elem .bool)))))⟩
def ae4:TI:=⟨1,8,.int .i64,[.int 0],some .int⟩
def ae3:TI:=⟨12,96,.struct [(0,25),(4,25),(8,25)],List.replicate 12 (.u64 0),some (.prod .elem (.prod .elem .elem))⟩
def ae2:TI:=⟨16,128,.array 16 23,List.replicate 16 (.u64 0),some (.arr 16 .u64)⟩
def ae1:TI:=⟨1,16,.iface,[.fD],none⟩
def ae0:TI:=⟨6,48,.array 6 23,[.u64 0,.u64 0,.u64 0,.u64 0,.u64 0,.u64 0],some (.arr 6 .u64)⟩
def aeZ:TI:=⟨1,24,.slice 23,[.emp],some (.list .u64)⟩
def aeY:TI:=⟨128,128,.array 128 5,List.replicate 128 (.u8 0),some (.arr 128 .u8)⟩
def aeX:TI:=⟨8,64,.array 2 25,[.u64 0,.u64 0,.u64 0,.u64 0,.u64 0,.u64 0,.u64 0,.u64 0],some (.arr 2 .elem)⟩
def aeW:TI:=⟨1,8,.other,[.gu],none⟩
def aeV:TI:=⟨135,1080,.array 15 27,(([.u64 0,.u64 0,.u64 0,.u64 0,.u64 0,.u64 0,.u64 0,.u64 0,.bool false,.u64 0,.u64 0,.u64 0,.u64 0,.u64 0,.u64 0,.u64 0,.u64 0,.bool false,.u64 0,.u64 0,.u64 0,.u64 0,.u64 0,.u64 0,.u64 0,.u64 0,.bool false,.u64 0,.u64 0,.u64 0,.u64 0,.u64 0,.u64 0,.u64 0,.u64 0,.bool false,.u64 0,.u64 0,.u64 0,.u64 0,.u64 0,.u64 0,.u64 0,.u64 0,.bool false,.u64 0,.u64 0,.u64 0,.u64 0,.u64 0]:List SV)++([.u64 0,.u64 0,.u64 0,.bool false,.u64 0,.u64 0,.u64 0,.u64 0,.u64 0,.u64 0,.u64 0,.u64 0,.bool false,.u64 0,.u64 0,.u64 0,.u64 0,.u64 0,.u64 0,.u64 0,.u64 0,.bool false,.u64 0,.u64 0,.u64 0,.u64 0,.u64 0,.u64 0,.u64 0,.u64 0,.bool false,.u64 0,.u64 0,.u64 0,.u64 0,.u64 0,.u64 0,.u64 0,.u64 0,.bool false,.u64 0,.u64 0,.u64 0,.u64 0,.u64 0,.u64 0,.u64 0,.u64 0,.bool false,.u64 0]:List SV)++([.u64 0,.u64 0,.u64 0,.u64 0,.u64 0,.u64 0,.u64 0,.bool false,.u64 0,.u64 0,.u64 0,.u64 0,.u64 0,.u64 0,.u64 0,.u64 0,.bool false,.u64 0,.u64 0,.u64 0,.u64 0,.u64 0,.u64 0,.u64 0,.u64 0,.bool false,.u64 0,.u64 0,.u64 0,.u64 0,.u64 0,.u64 0,.u64 0,.u64 0,.bool false]:List SV)),some (.arr 15 (.prod .elem (.prod .elem .bool)))⟩
def aeU:TI:=⟨16,128,.array 16 23,List.replicate 16 (.u64 0),some (.arr 16 .u64)⟩
def aeT:TI:=⟨10,160,.array 10 9,List.replicate 10 (.str []),some (.arr 10 .str)⟩
def aeS:TI:=⟨1,8,.ptr [("sigil/blake.mix",200)],[.rK],none⟩
theorem aFq:fe aj 1 az5:=aF
theorem aFp:fe aj 3 az4:=aF
theorem aFo:fe aj 4 az3:=aF
theorem aFn:fe aj 5 az2:=aF
theorem aFm:fe aj 9 az1:=aF
theorem aCP:fe aj 20 aoO:=aF
theorem aCO:fe aj 22 aac:=aF
theorem aCN:fe aj 23 aoN:=aF
theorem aCM:fe aj 25 C0:=aF
theorem aCL:fe aj 27 PQ:=aF
theorem aCK:fe aj 29 aoM:=aF
theorem aCJ:fe aj 30 HO:=aF
theorem aCI:fe aj 32 aoL:=aF
theorem aCH:fe aj 34 aoK:=aF
theorem aCG:fe aj 37 aoJ:=aF
theorem aCF:fe aj 40 aoI:=aF
theorem aCE:fe aj 51 aoH:=aF
theorem aCD:fe aj 52 aoG:=aF
theorem aCC:fe aj 79 aoF:=aF
theorem aCB:fe aj 83 aoE:=aF
theorem aCA:fe aj 87 aoD:=aF
theorem awt:fe aj 105 afv:=aF
theorem aws:fe aj 109 afu:=aF
theorem awr:fe aj 111 aft:=aF
theorem awq:fe aj 113 afs:=aF
theorem awp:fe aj 130 afr:=aF
theorem awo:fe aj 133 afq:=aF
theorem awn:fe aj 134 afp:=aF
theorem awm:fe aj 137 afo:=aF
theorem awl:fe aj 142 afn:=aF
theorem awk:fe aj 143 afm:=aF
theorem awj:fe aj 147 afl:=aF
theorem awi:fe aj 148 afk:=aF
theorem awh:fe aj 150 afj:=aF
theorem awg:fe aj 155 afi:=aF
theorem awf:fe aj 161 afh:=aF
theorem awe:fe aj 165 afg:=aF
theorem awd:fe aj 167 aff:=aF
theorem awc:fe aj 168 afe:=aF
theorem awb:fe aj 171 afd:=aF
theorem awa:fe aj 173 afc:=aF
theorem av9:fe aj 175 Gq:=aF
theorem av8:fe aj 177 afb:=aF
theorem av7:fe aj 181 afa:=aF
theorem av6:fe aj 189 ae9:=aF
theorem av5:fe aj 196 ae8:=aF
theorem av4:fe aj 203 ae7:=aF
theorem av3:fe aj 204 ae6:=aF
theorem av2:fe aj 210 ae5:=aF
theorem av1:fe aj 213 ae4:=aF
theorem av0:fe aj 216 ae3:=aF
theorem avZ:fe aj 221 ae2:=aF
theorem avY:fe aj 231 ae1:=aF
theorem avX:fe aj 233 ae0:=aF
theorem avW:fe aj 235 aeZ:=aF
theorem avV:fe aj 239 aeY:=aF
theorem avU:fe aj 240 aeX:=aF
theorem avT:fe aj 249 aeW:=aF
theorem avS:fe aj 250 aeV:=aF
theorem avR:fe aj 251 aeU:=aF
theorem avQ:fe aj 252 aeT:=aF
theorem avP:fe aj 258 aeS:=aF
def te:TE:=bt 1 az5<|bt 3 az4<|bt 4 az3<|bt 5 az2<|bt 9 az1<|bt 20 aoO<|bt 22 aac<|bt 23 aoN<|bt 25 C0<|bt 27 PQ<|bt 29 aoM<|bt 30 HO<|bt 32 aoL<|bt 34 aoK<|bt 37 aoJ<|bt 40 aoI<|bt 51 aoH<|bt 52 aoG<|bt 79 aoF<|bt 83 aoE<|bt 87 aoD<|bt 105 afv<|bt 109 afu<|bt 111 aft<|bt 113 afs<|bt 130 afr<|bt 133 afq<|bt 134 afp<|bt 137 afo<|bt 142 afn<|bt 143 afm<|bt 147 afl<|bt 148 afk<|bt 150 afj<|bt 155 afi<|bt 161 afh<|bt 165 afg<|bt 167 aff<|bt 168 afe<|bt 171 afd<|bt 173 afc<|bt 175 Gq<|bt 177 afb<|bt 181 afa<|bt 189 ae9<|bt 196 ae8<|bt 203 ae7<|bt 204 ae6<|bt 210 ae5<|bt 213 ae4<|bt 216 ae3<|bt 221 ae2<|bt 231 ae1<|bt 233 ae0<|bt 235 aeZ<|bt 239 aeY<|bt 240 aeX<|bt 249 aeW<|bt 250 aeV<|bt 251 aeU<|bt 252 aeT<|bt 258 aeS<|aFr
theorem Mb:kq aj te:=aG aFq<|aG aFp<|aG aFo<|aG aFn<|aG aFm<|aG aCP<|aG aCO<|aG aCN<|aG aCM<|aG aCL<|aG aCK<|aG aCJ<|aG aCI<|aG aCH<|aG aCG<|aG aCF<|aG aCE<|aG aCD<|aG aCC<|aG aCB<|aG aCA<|aG awt<|aG aws<|aG awr<|aG awq<|aG awp<|aG awo<|aG awn<|aG awm<|aG awl<|aG awk<|aG awj<|aG awi<|aG awh<|aG awg<|aG awf<|aG awe<|aG awd<|aG awc<|aG awb<|aG awa<|aG av9<|aG av8<|aG av7<|aG av6<|aG av5<|aG av4<|aG av3<|aG av2<|aG av1<|aG av0<|aG avZ<|aG avY<|aG avX<|aG avW<|aG avV<|aG avU<|aG avT<|aG avS<|aG avR<|aG avQ<|aG avP<|awu
theorem follows:aj.follows .mixedOrders=true:=by kernel_rfl
def E0:Env:=ahs
theorem aHU:bU aj te E0:=aIi follows Mb
def CI (b:List UInt8) (k:Nat):UInt64:=(List.range k).foldl (λv (i:Nat)=>v|||cC (UInt8.toUInt64 (b.getD i 0)) (8*(i:Int))) 0
theorem ajI (b:List UInt8) (k:Nat):CI b (k+1)=CI b k|||cC (UInt8.toUInt64 (b.getD k 0)) (8*(k:Int)):=by
 simp [CI,List.range_succ]
abbrev ap:Type:=List UInt64
abbrev aB:Type:=List ab
abbrev aH:Type:=List UInt8
abbrev eS:Type:=Int×Unit
abbrev b8:Type:=Unit×Unit
abbrev mV:Type:=UInt64×Unit
abbrev oV:Type:=ab×Unit
abbrev rq:Type:=ab×PUnit
abbrev cI:Type:=ab×ab×Bool
abbrev mX:Type:=Unit×b8
abbrev fG:Type:=aB×Unit
abbrev dp:Type:=aH×Unit
abbrev iD:Type:=ab×ab×ab
abbrev xe:Type:=ab×oV
abbrev Cf:Type:=PUnit×PUnit×PUnit
abbrev jM:Type:=Int×eS
abbrev oW:Type:=eS×Unit
abbrev ru:Type:=Unit×eS
abbrev ul:Type:=ap×Unit
abbrev FL:Type:=ap×UInt64
abbrev FK:Type:=aH×PUnit
abbrev xb:Type:=Int×aB
abbrev YB:Type:=List (Int×ab)
abbrev LC:Type:=List aH
abbrev zV:Type:=ap×ul
abbrev mW:Type:=Unit×ru
abbrev cH:Type:=List cI
abbrev lu:Type:=ap×UInt64×aH
abbrev jN:Type:=Int×fG
abbrev kR:Type:=Int×mX
abbrev mU:Type:=ab×xb
abbrev nO:Type:=Unit×mX
abbrev rp:Type:=cI×Unit
abbrev LF:Type:=Int×aB×PUnit
abbrev ain:Type:=UInt64×UInt64×mV
abbrev aik:Type:=(ab×eS)×Unit
abbrev Ce:Type:=cI×Int
abbrev aij:Type:=(Int×oV)×Unit
abbrev ef:Type:=List (ab×cI)
abbrev iR:Type:=ab×Int×UInt64×UInt64×ab
abbrev ry:Type:=Unit×Unit×jM
abbrev mT:Type:=mX×zV
abbrev oX:Type:=ap×zV
abbrev LG:Type:=(Int×xe)×Unit
abbrev aio:Type:=(Unit×Unit×mV)×zV
abbrev aul:Type:=PUnit×PUnit×PUnit×Int×PUnit
abbrev YA:Type:=Int×Unit×dp
abbrev LB:Type:=Unit×nO
abbrev LA:Type:=cH×Unit
abbrev oY:Type:=ap×oX
abbrev FM:Type:=YA×jN×Unit
abbrev Cg:Type:=Unit×Unit×mW
abbrev air:Type:=Unit×Unit×Unit×UInt64×eS
abbrev xd:Type:=ef×Unit
abbrev auq:Type:=(Int×Cf)×LF×(aB×PUnit)×FK
abbrev OS:Type:=kR×jN×dp
abbrev kS:Type:=Int×Int×cH×cI×cI
abbrev aiw:Type:=UInt64×UInt64×UInt64×ain
abbrev LD:Type:=Unit×Cg
abbrev aim:Type:=(Int×b8)×xd
abbrev aBa:Type:=UInt64×UInt64×UInt64×UInt64×UInt64×UInt64×PUnit
abbrev OU:Type:=kS×xb×aB×aB×ab×ab
abbrev YD:Type:=Unit×Unit×Unit×ry
abbrev rm:Type:=kS×Unit
abbrev YC:Type:=(Unit×air)×oY
abbrev aii:Type:=(Int×xd)×Unit
abbrev aiq:Type:=(Int×Int×cH×cI×rp)×LA
abbrev auo:Type:=ap×ap×ap×ap×LC×dp×Unit
abbrev aA9:Type:=LD×ap×ap×ap×ap×LC×Unit
abbrev kf:Type:=UInt64×UInt64×UInt64×UInt64×UInt64×UInt64×UInt64×UInt64×Bool×Unit
abbrev Ge:Type:=kS×Int×ab×aB×aB×cH×ab
abbrev aiv:Type:=UInt64×UInt64×UInt64×UInt64×UInt64×UInt64×UInt64×UInt64×Bool×PUnit
abbrev ais:Type:=kS×Int×ab×Unit×Unit×cH×oV
abbrev aup:Type:=UInt64×UInt64×UInt64×aiw
abbrev uk:Type:=Ge×Unit
abbrev MF:Type:=UInt64×UInt64×UInt64×UInt64×Int×aiw
abbrev OV:Type:=Int×UInt64×UInt64×UInt64×UInt64×UInt64×UInt64×UInt64×UInt64×Unit×mV
abbrev ait:Type:=Int×UInt64×UInt64×UInt64×UInt64×UInt64×UInt64×UInt64×UInt64×PUnit×UInt64×PUnit
abbrev um:Type:=kf×kf×Unit
abbrev aur:Type:=Int×UInt64×UInt64×UInt64×UInt64×UInt64×UInt64×UInt64×UInt64×aH×mV
abbrev aip:Type:=(Int×ef×mW)×um
abbrev auk:Type:=UInt64×UInt64×UInt64×aup
abbrev aiu:Type:=YA×jN×rm×ap×ap×b8×eS×Unit×xd
abbrev aun:Type:=UInt64×UInt64×UInt64×UInt64×kf
abbrev auj:Type:=ap×MF×ap×oY
abbrev aBc:Type:=ais×kR×jN×fG×Unit×ap×ap×ap×ap×cH×aB×aB×dp
abbrev aum:Type:=(Int×Cg)×ap×kf×um
abbrev aBf:Type:=YA×jN×rm×ap×ap×b8×eS×Unit×ap×ap×aB×xd
abbrev aBe:Type:=kR×jN×fG×aH×rm×ap×ap×eS×ais×aB×aB×fG
abbrev aBb:Type:=kR×jN×fG×Unit×rm×ap×ap×eS×uk×dp
abbrev LH:Type:=Int×Int×cH×UInt64×UInt64×UInt64×UInt64×UInt64×UInt64×UInt64×UInt64×Bool×kf
abbrev aBd:Type:=Int×Int×cH×UInt64×UInt64×UInt64×UInt64×UInt64×UInt64×UInt64×UInt64×Bool×aiv
abbrev ail:Type:=LH×kf×xd
abbrev aQ:Sh:=.val false .u64
abbrev Ct:Ty:=.prod .elem (.prod .elem .bool)
abbrev aD:Sh:=.val false .int
abbrev rA:Sh:=.val false .bool
abbrev YJ:CSh:=.cells [aQ,aQ,aQ,aQ,aQ,aQ,aQ,aQ,rA]
abbrev aGC:Ty:=.prod .int (.prod .int (.prod (.list Ct) (.prod Ct Ct)))
abbrev jK:Sh:=.val false (.list .elem)
abbrev aGB:CSh:=.cells [.val true (.prod aGC (.prod .int (.prod .elem (.prod (.list .elem) (.prod (.list .elem) (.prod (.list Ct) .elem))))))]
abbrev xh:Sh:=.val false (.list Ct)
abbrev YH:Nat×CSh:=(0,.cells [aD,aD,xh,aQ,aQ,aQ,aQ,aQ,aQ,aQ,aQ,rA,aQ,aQ,aQ,aQ,aQ,aQ,aQ,aQ,rA])
abbrev du:Sh:=.val true .elem
abbrev LI:Sh:=.ifp 165 1
abbrev iS:Sh:=.val false (.list .u8)
abbrev aec:Nat×CSh:=(0,.cells [aD,LI,iS])
abbrev gq:CSh:=.row .u64
abbrev ur:CSh:=.cells [aD,jK]
abbrev kU:Nat×CSh:=(1,ur)
abbrev eT:Sh:=.ptr 0 0 0
abbrev OX:CSh:=.cells [aQ,aQ,aQ,aQ,aD,aQ,aQ,aQ,aQ,aQ,aQ]
abbrev aut:Nat×CSh:=(0,.cells [aD,LI,.own 2])
abbrev jQ:CSh:=.row .u8
abbrev zX:Nat×CSh:=(2,jQ)
abbrev uv:List (Nat×CSh):= [aut,kU,zX]
abbrev ly:Sh:=.val false (.list (.prod .elem Ct))
abbrev YF:Sh:=.val true aGC
abbrev uu:CSh:=.cells [YF]
abbrev nS:Nat×CSh:=(3,gq)
abbrev Cl:Nat×CSh:=(4,gq)
abbrev jG:List Sh:= [aD]
abbrev o4:CSh:=.cells jG
abbrev FT:CSh:=.row (.prod .elem Ct)
abbrev aiB:List (Nat×CSh):= [aec,kU,(2,uu),nS,Cl,(5,.cells [.own 8]),(6,o4),(7,.gone),(8,FT)]
abbrev im:Sh:=.ptr 1 0 0
abbrev OW:Sh:=.val true (.prod .elem (.prod .int (.prod .u64 (.prod .u64 .elem))))
abbrev xj:Sh:=.val true Ct
abbrev kg:Sh:=.own 1
abbrev YK:Nat×CSh:=(0,.cells [aD,aQ,aQ,aQ,aQ,aQ,aQ,aQ,aQ,kg,aQ])
abbrev fV:Sh:=.ptr 2 0 0
abbrev FR:Sh:=.val true (.prod .elem (.prod .elem .elem))
abbrev aBj:CSh:=.cells [YF,aD,du,.own 10,.own 11,xh,du]
abbrev Cs:CSh:=.cells [jK]
abbrev Ck:Nat×CSh:=(5,gq)
abbrev uw:Nat×CSh:=(6,gq)
abbrev fH:CSh:=.row .elem
abbrev aBr:List (Nat×CSh):= [(0,aBj),(1,.cells [aD,.ifp 165 2,.own 12]),(2,ur),(3,Cs),(4,.gone),Ck,uw,(7,gq),(8,gq),(9,.row Ct),(10,fH),(11,fH),(12,jQ)]
abbrev iE:Nat×CSh:=(0,gq)
abbrev aiA:Nat×CSh:=(0,.cells [aD,LI,.own 3])
abbrev uz:Nat×CSh:=(2,Cs)
abbrev aBq:List (Nat×CSh):= [aiA,kU,uz,(3,jQ),(4,uu),Ck,uw,(7,o4),(8,aBj),(9,fH),(10,fH),(11,fH)]
abbrev o3:Nat×CSh:=(1,gq)
abbrev ej:Nat×Sh:=(4,eT)
abbrev lx:Nat×CSh:=(2,gq)
abbrev gn:Sh:=.ptr 3 0 0
abbrev aBp:List (Nat×CSh):= [(0,.cells [aD,.ifp 171 1,.own 2]),(1,.cells [aD,gn]),zX,(3,.cells [aD,aQ,aQ,aQ,aQ,aQ,aQ,aQ,aQ,.own 4,aQ]),(4,jQ)]
abbrev kT:List Sh:= [du,aD]
abbrev Cm:Sh:=.ptr 5 0 0
abbrev nV:Nat×Sh:=(10,Cm)
abbrev FP:Sh:=.ptr 6 0 0
abbrev nU:Nat×Sh:=(11,FP)
abbrev YG:Sh:=.val false .str
abbrev auv:List (Nat×CSh):= [iE,o3,lx,nS,(4,.row .str),(5,.cells [YG])]
abbrev YI:Sh:=.val true (.prod .int (.list .elem))
abbrev mY:List (Nat×CSh):= [aec,kU]
abbrev auu:List (Nat×CSh):= [iE,(1,OX),lx,nS,Cl,Ck,uw]
abbrev aBo:List (Nat×CSh):= [aec,kU,(2,uu),nS,Cl,(5,.cells [.own 11]),(6,o4),(7,.gone),(8,gq),(9,gq),(10,fH),(11,FT)]
abbrev aBn:List (Nat×CSh):= [(0,.cells [aD,LI,.own 9]),kU,uz,(3,.gone),(4,uu),Ck,uw,(7,o4),(8,aGB),(9,jQ)]
abbrev lv:Nat×CSh:=(0,YJ)
abbrev Cr:Sh:=.ptr 4 0 0
abbrev Cp:Nat×CSh:=(1,.row Ct)
abbrev aBm:List (Nat×CSh):= [lv,Cp,(2,.cells [aQ,aQ,aQ,aQ,aQ,aQ,aQ,aQ,aQ,aQ,aQ,aQ,rA])]
abbrev uq:List (Nat×CSh):= [iE,o3]
abbrev jP:Nat×Sh:=(6,im)
abbrev jO:Nat×Sh:=(6,eT)
abbrev LM:List Sh:= [aD,du,du]
abbrev jH:Nat×Sh:=(0,aD)
abbrev Cq:Nat×Sh:=(12,.ptr 7 0 0)
abbrev aBl:CSh:=.cells [aQ,aQ,aQ,aQ,aQ,aQ,aQ,aQ,aQ,aQ,aQ,aQ]
abbrev nQ:Nat×CSh:=(1,jQ)
abbrev LL:List (Nat×CSh):= [lv,(1,YJ)]
abbrev LK:Sh:=.ptr 8 0 0
abbrev FQ:List Sh:= [eT,aD]
abbrev aBk:List (Nat×CSh):= [aiA,kU,uz,(3,jQ),(4,uu),Ck,uw,(7,o4)]
abbrev aiz:List (Nat×CSh):= [iE,o3,lx,nS]
abbrev rz:Nat×Sh:=(1,eT)
abbrev il:List Sh:= [du]
abbrev xg:List (Nat×CSh):= [(0,o4)]
abbrev Co:Nat×Sh:=(13,Cr)
abbrev aiy:Nat×CSh:=(0,.cells [aD,kg])
abbrev LJ:List Sh:= [xj,aD]
abbrev uo:Nat×Sh:=(5,im)
abbrev Cn:Nat×Sh:=(8,im)
abbrev Cj:Nat×Sh:=(2,eT)
abbrev aBi:List (Nat×Sh):= [Cj,(3,im),(4,fV),(6,gn),(7,aQ),(9,aD)]
abbrev o0:List Sh:= [eT]
abbrev oZ:List Sh:= [xj]
abbrev Ci:Nat×Sh:=(3,eT)
abbrev YE:Sh:=.val false .u8
abbrev aix:List (Nat×CSh):= [iE,o3,lx]
abbrev xf:Nat×Sh:=(7,aD)
abbrev Ab:Nat×Sh:=(9,fV)
abbrev aBh:List (Nat×Sh):= [ej,Cn,Ab,(11,gn),Co,(51,aD)]
abbrev aus:Sh:=.val true (.arr 8 .u64)
abbrev aBg:List (Nat×CSh):= [aut,(1,.cells [aD,.own 3]),zX,(3,fH)]
abbrev FO:Nat×Sh:=(8,fV)
abbrev FN:Nat×Sh:=(5,fV)
abbrev Ad:List (Nat×CSh):= [(0,jQ)]
abbrev EE:Nat×Sh:=(10,kg)
abbrev ra:Nat×CSh:=(0,aGB)
abbrev LN:List Sh:= [aQ,aQ]
abbrev n9:List Sh:= [rA]
abbrev Ac:List Sh:= [.ife 175]
abbrev Aa:Nat×Sh:=(0,eT)
abbrev aed:List (Nat×CSh):= [(0,OX),o3,lx]
abbrev zZ:Nat×Sh:=(17,aD)
abbrev zY:Nat×Sh:=(7,im)
abbrev auw:List (Nat×CSh):= [iE,(1,OX),lx,nS,Cl,Ck]
abbrev zW:Nat×CSh:=(2,FT)
abbrev ED:Nat×Sh:=(14,LK)
def zH:af:=⟨[iS],[],true,0,false⟩
abbrev XZ:Type:=dp×Unit
def ay3:Shape:=⟨22,[(3,aQ),(6,iS),xf,(8,aD)],[],0,true⟩
abbrev iC:Type:=(UInt64×aH×jM)×Unit
def vX:Shape:=⟨22,[(3,aQ)],[],0,true⟩
abbrev zG:Type:=mV×Unit
def Sw (a3:UInt64) (a6:aH) (a7:Int) (a8:Int):OT (Sum iC aZ):=
 (.br (decide (a8<a7))
 (gd [inB a8 (List.length a6),inR ((8:Int)*a8),decide ((0:Int)<=(8:Int)*a8),inR (a8+(1:Int))] (.ok (.inl ((a3|||cC (UInt8.toUInt64 (List.getD a6 (Int.toNat a8) (0:UInt8))) ((8:Int)*a8),a6,a7,a8+(1:Int),()),()))))
 (.ok (.inr ⟨(.exit 0,vX),((a3,()),())⟩)))
def vY (s:iC):OT (Sum iC aZ):=Sw s.1.1 s.1.2.1 s.1.2.2.1 s.1.2.2.2.1
def ahT (g0_0:iC->zG) (s:iC):OT aZ:=(.ok ⟨(.exit 0,vX),g0_0 s⟩)
def Sv:aL:=⟨[aQ],[],false⟩
section
variable (ok0:iC->Bool) (g0_0:iC->zG)
def atq (a0:aH):OT zH.Y:=
 let z0:iC:=(((0:UInt64),a0,(↑(List.length a0):Int),(0:Int),()),())
 (gd [ok0 z0] (.ok ⟨Sv,(((g0_0 z0).fst.fst,()),())⟩))
theorem anb (h0:bh vY ok0 (ahT g0_0)) (pre:XZ->Bool) (F:XZ->OT zH.Y) (hF:∀ (x:XZ) oy,pre x=true->(F x).run=some oy->(atq ok0 g0_0 x.1.1).run=some oy):aa aj 150 (zH.az pre F):=
 dh aHU 150 Tryz.f150 zH [Sv] (kZ aHU 0 ay3 [(0,vX)] none none vY bE h0 bE) (λx=>atq ok0 g0_0 x.1.1) hF
end
def XY (s:iC):Bool:=decide (s.1.1=0/\s.1.2.2.1=(s.1.2.1.length:Int)/\s.1.2.2.2.1=0/\s.1.2.1.length<=4096)
def ahS (s:iC):zG:=((CI s.1.2.1 s.1.2.1.length,()),())
theorem ay5:∀ s,XY s=true->∃ m e,cU vY m s=some e/\(ahT ahS s).run=some e:=by
 rintro ⟨⟨v,b,n,i,⟨⟩⟩,⟨⟩⟩ h
 have h':=bn h
 dsimp only at h'
 obtain ⟨rfl,rfl,rfl,hl⟩:=h'
 have:=Jk (T:=vY) (λk=>((CI b k,b,(b.length:Int),(k:Int),()),())) b.length (e:=⟨(.exit 0,vX),((CI b b.length,()),())⟩) (λk hk=> ?_) ?_ 0 (Nat.zero_le _)
 ·obtain ⟨m,hm⟩:=this
  exact ⟨m,_,hm,rfl⟩
 ·unfold vY Sw
  dsimp only
  rw [OT.ak (ag (by omega)),ae (by simp;exact ⟨ba (by omega),aS (by omega),by omega,aS (by omega)⟩),OT.jb,ajI]
  rfl
 ·unfold vY Sw
  dsimp only
  rw [OT.au (bq (by omega)),OT.jb]
def mN (x:XZ):Bool:=decide (x.1.1.length<=4096)
def atr (x:XZ):OT zH.Y:=.ok ⟨Sv,((CI x.1.1 x.1.1.length,()),())⟩
theorem ay4:aa aj 150 (zH.az mN atr):=anb XY ahS ay5 _ _ λx oy hp ho=>by
 rw [<-ho]
 have hp':=bn hp
 refine (OT.ak ?_).trans ?_
 ·exact ag ⟨rfl,rfl,rfl,hp'⟩
 ·rfl
def Et:bx:=(zH.az mN atr)
theorem adI:aa aj 150 Et:=ay4
theorem adH:ax Et:=av
def avh:Env:=aq 150 Et E0
theorem Zo:bU aj te avh:=aU follows aHU adI adH
def H7:af:=⟨[aQ,aD],[],true,0,false⟩
abbrev ao9:Type:=(UInt64×eS)×Unit
def aaz:aL:=⟨[aQ],[],false⟩
def aAb (a0:UInt64) (a1:Int):OT H7.Y:=
 (.ok ⟨aaz,((cC a0 (↑(UInt64.toNat (i2u a1&&&(63:UInt64))):Int)|||bC a0 (↑(UInt64.toNat ((64:UInt64)-(i2u a1&&&(63:UInt64)))):Int),()),())⟩)
theorem ao8 (pre:ao9->Bool) (F:ao9->OT H7.Y) (hF:∀ (x:ao9) oy,pre x=true->(F x).run=some oy->(aAb x.1.1 x.1.2.1).run=some oy):aa aj 202 (H7.az pre F):=
 dh Zo 202 Tryz.f202 H7 [aaz] bE (λx=>aAb x.1.1 x.1.2.1) hF
def rotl (a:UInt64) (n:Int):UInt64:=cC a (UInt64.toNat (i2u n&&&63):Int)|||bC a (UInt64.toNat (64-(i2u n&&&63)):Int)
def afP (_:ao9):Bool:=true
def aAc (x:ao9):OT H7.Y:=.ok ⟨aaz,((rotl x.1.1 x.1.2.1,()),())⟩
theorem aC3:aa aj 202 (H7.az afP aAc):=ao8 _ _ λx oy _ ho=>ho
def H6:bx:=(H7.az afP aAc)
theorem akA:aa aj 202 H6:=aC3
theorem akz:ax H6:=av
def aBE:Env:=aq 202 H6 avh
theorem aiS:bU aj te aBE:=aU follows Zo akA akz
def K9:af:=⟨[YE],[],true,0,false⟩
abbrev atC:Type:=(UInt8×Unit)×Unit
def SD:aL:=⟨jG,[],false⟩
def aA2 (a0:UInt8):OT K9.Y:=
 (.br (decide ((97:UInt8)<=a0))
 (gd [inR ((↑(UInt8.toNat (a0-(97:UInt8))):Int)+(10:Int))] (.ok ⟨SD,(((↑(UInt8.toNat (a0-(97:UInt8))):Int)+(10:Int),()),())⟩))
 (.ok ⟨SD,(((↑(UInt8.toNat (a0-(48:UInt8))):Int),()),())⟩))
theorem atB (pre:atC->Bool) (F:atC->OT K9.Y) (hF:∀ (x:atC) oy,pre x=true->(F x).run=some oy->(aA2 x.1.1).run=some oy):aa aj 199 (K9.az pre F):=
 dh aiS 199 Tryz.f199 K9 [SD] bE (λx=>aA2 x.1.1) hF
def nib (c:UInt8):Int:=if 97<=c then (UInt8.toNat (c-97):Int)+10 else (UInt8.toNat (c-48):Int)
def ah1 (_:atC):Bool:=true
def ah2 (x:atC):OT K9.Y:=.ok ⟨SD,((nib x.1.1,()),())⟩
theorem aEI:aa aj 199 (K9.az ah1 ah2):=atB _ _ λx oy _ ho=>by
 rw [<-ho]
 have hlt:=(x.1.1-97).toNat_lt
 by_cases h:97<=x.1.1
 ·refine (OT.ak (ag h)).trans ((ae (by simp;exact aS (by omega))).trans ?_)
  simp only [ah2,nib,if_pos h]
 ·refine (OT.au (bq h)).trans ?_
  simp only [ah2,nib,if_neg h]
def K8:bx:=(K9.az ah1 ah2)
theorem ani:aa aj 199 K8:=aEI
theorem anh:ax K8:=av
def aBY:Env:=aq 199 K8 aBE
theorem ajs:bU aj te aBY:=aU follows aiS ani anh
def qP:af:=⟨[],[],true,0,false⟩
abbrev K5:Type:=b8
def K4:aL:=⟨[aus],[],false⟩
def ahV:OT qP.Y:=
 (.ok ⟨K4,(([(7640891576956012808:UInt64),(13503953896175478587:UInt64),(4354685564936845355:UInt64),(11912009170470909681:UInt64),(5840696475078001361:UInt64),(11170449401992604703:UInt64),(2270897969802886507:UInt64),(6620516959819538809:UInt64)],()),())⟩)
theorem adT (pre:K5->Bool) (F:K5->OT qP.Y) (hF:∀ (x:K5) oy,pre x=true->(F x).run=some oy->(ahV).run=some oy):aa aj 149 (qP.az pre F):=
 dh ajs 149 Tryz.f149 qP [K4] bE (λx=>ahV) hF
def bIV:ap:= [0x6a09e667f3bcc908,0xbb67ae8584caa73b,0x3c6ef372fe94f82b,0xa54ff53a5f1d36f1,0x510e527fade682d1,0x9b05688c2b3e6c1f,0x1f83d9abfb41bd6b,0x5be0cd19137e2179]
def OE (_:K5):Bool:=true
def ahW (_:K5):OT qP.Y:=.ok ⟨K4,((bIV,()),())⟩
theorem atz:aa aj 149 (qP.az OE ahW):=adT _ _ λx oy _ ho=>ho
def zJ:bx:=(qP.az OE ahW)
theorem X7:aa aj 149 zJ:=atz
theorem X6:ax zJ:=av
def ajq:Env:=aq 149 zJ aBY
theorem Pl:bU aj te ajq:=aU follows ajs X7 X6
def qQ:af:=⟨[],[],true,0,false⟩
abbrev K7:Type:=b8
def K6:aL:=⟨[.val true (.arr 10 .str)],[],false⟩
def ahX:OT qQ.Y:=
 (.ok ⟨K6,(([[(48:UInt8),(49:UInt8),(50:UInt8),(51:UInt8),(52:UInt8),(53:UInt8),(54:UInt8),(55:UInt8),(56:UInt8),(57:UInt8),(97:UInt8),(98:UInt8),(99:UInt8),(100:UInt8),(101:UInt8),(102:UInt8)],[(101:UInt8),(97:UInt8),(52:UInt8),(56:UInt8),(57:UInt8),(102:UInt8),(100:UInt8),(54:UInt8),(49:UInt8),(99:UInt8),(48:UInt8),(50:UInt8),(98:UInt8),(55:UInt8),(53:UInt8),(51:UInt8)],[(98:UInt8),(56:UInt8),(99:UInt8),(48:UInt8),(53:UInt8),(50:UInt8),(102:UInt8),(100:UInt8),(97:UInt8),(101:UInt8),(51:UInt8),(54:UInt8),(55:UInt8),(49:UInt8),(57:UInt8),(52:UInt8)],[(55:UInt8),(57:UInt8),(51:UInt8),(49:UInt8),(100:UInt8),(99:UInt8),(98:UInt8),(101:UInt8),(50:UInt8),(54:UInt8),(53:UInt8),(97:UInt8),(52:UInt8),(48:UInt8),(102:UInt8),(56:UInt8)],[(57:UInt8),(48:UInt8),(53:UInt8),(55:UInt8),(50:UInt8),(52:UInt8),(97:UInt8),(102:UInt8),(101:UInt8),(49:UInt8),(98:UInt8),(99:UInt8),(54:UInt8),(56:UInt8),(51:UInt8),(100:UInt8)],[(50:UInt8),(99:UInt8),(54:UInt8),(97:UInt8),(48:UInt8),(98:UInt8),(56:UInt8),(51:UInt8),(52:UInt8),(100:UInt8),(55:UInt8),(53:UInt8),(102:UInt8),(101:UInt8),(49:UInt8),(57:UInt8)],[(99:UInt8),(53:UInt8),(49:UInt8),(102:UInt8),(101:UInt8),(100:UInt8),(52:UInt8),(97:UInt8),(48:UInt8),(55:UInt8),(54:UInt8),(51:UInt8),(57:UInt8),(50:UInt8),(56:UInt8),(98:UInt8)],[(100:UInt8),(98:UInt8),(55:UInt8),(101:UInt8),(99:UInt8),(49:UInt8),(51:UInt8),(57:UInt8),(53:UInt8),(48:UInt8),(102:UInt8),(52:UInt8),(56:UInt8),(54:UInt8),(50:UInt8),(97:UInt8)],[(54:UInt8),(102:UInt8),(101:UInt8),(57:UInt8),(98:UInt8),(51:UInt8),(48:UInt8),(56:UInt8),(99:UInt8),(50:UInt8),(100:UInt8),(55:UInt8),(49:UInt8),(52:UInt8),(97:UInt8),(53:UInt8)],[(97:UInt8),(50:UInt8),(56:UInt8),(52:UInt8),(55:UInt8),(54:UInt8),(49:UInt8),(53:UInt8),(102:UInt8),(98:UInt8),(57:UInt8),(101:UInt8),(51:UInt8),(99:UInt8),(100:UInt8),(48:UInt8)]],()),())⟩)
theorem adU (pre:K7->Bool) (F:K7->OT qQ.Y) (hF:∀ (x:K7) oy,pre x=true->(F x).run=some oy->(ahX).run=some oy):aa aj 197 (qQ.az pre F):=
 dh Pl 197 Tryz.f197 qQ [K6] bE (λx=>ahX) hF
def iQ:LC:= [[48,49,50,51,52,53,54,55,56,57,97,98,99,100,101,102],
 [101,97,52,56,57,102,100,54,49,99,48,50,98,55,53,51],
 [98,56,99,48,53,50,102,100,97,101,51,54,55,49,57,52],
 [55,57,51,49,100,99,98,101,50,54,53,97,52,48,102,56],
 [57,48,53,55,50,52,97,102,101,49,98,99,54,56,51,100],
 [50,99,54,97,48,98,56,51,52,100,55,53,102,101,49,57],
 [99,53,49,102,101,100,52,97,48,55,54,51,57,50,56,98],
 [100,98,55,101,99,49,51,57,53,48,102,52,56,54,50,97],
 [54,102,101,57,98,51,48,56,99,50,100,55,49,52,97,53],
 [97,50,56,52,55,54,49,53,102,98,57,101,51,99,100,48]]
def OG (_:K7):Bool:=true
def ahY (_:K7):OT qQ.Y:=.ok ⟨K6,((iQ,()),())⟩
theorem atA:aa aj 197 (qQ.az OG ahY):=adU _ _ λx oy _ ho=>ho
def zK:bx:=(qQ.az OG ahY)
theorem X9:aa aj 197 zK:=atA
theorem X8:ax zK:=av
def ajr:Env:=aq 197 zK ajq
theorem Pm:bU aj te ajr:=aU follows Pl X9 X8
def Lh:af:=⟨[eT,aD,aD,aD,aD,aQ,aQ],[iE],false,1,true⟩
abbrev atI:Type:=(Unit×Int×Int×Int×Int×UInt64×mV)×ul
def adX:aL:=⟨[],[iE],false⟩
def aA3 (a1:Int) (a2:Int) (a3:Int) (a4:Int) (a5:UInt64) (a6:UInt64) (c0:ap):OT Lh.Y:=
 let z0:Bool:=inB a1 16
 let z1:Nat:=List.length c0
 let z2:Bool:=decide (Int.toNat a1+0<z1)
 let z3:Bool:=inB a2 16
 let z4:Bool:=inB a4 16
 let z5:ap:=List.set c0 (Int.toNat a1+0) (List.getD c0 (Int.toNat a1+0) (0:UInt64)+(List.getD c0 (Int.toNat a2+0) (0:UInt64)+a5))
 let z6:Nat:=List.length z5
 let z7:Bool:=decide (Int.toNat a4+0<z6)
 let z8:Bool:=inB a3 16
 let z9:ap:=List.set z5 (Int.toNat a4+0) (rotl (List.getD z5 (Int.toNat a4+0) (0:UInt64)^^^List.getD z5 (Int.toNat a1+0) (0:UInt64)) (-32:Int))
 let z10:Nat:=List.length z9
 let z11:Bool:=decide (Int.toNat a3+0<z10)
 let z12:ap:=List.set z9 (Int.toNat a3+0) (List.getD z9 (Int.toNat a3+0) (0:UInt64)+List.getD z9 (Int.toNat a4+0) (0:UInt64))
 let z13:Nat:=List.length z12
 let z14:Bool:=decide (Int.toNat a2+0<z13)
 let z15:ap:=List.set z12 (Int.toNat a2+0) (rotl (List.getD z12 (Int.toNat a2+0) (0:UInt64)^^^List.getD z12 (Int.toNat a3+0) (0:UInt64)) (-24:Int))
 let z16:Nat:=List.length z15
 let z17:Bool:=decide (Int.toNat a1+0<z16)
 let z18:ap:=List.set z15 (Int.toNat a1+0) (List.getD z15 (Int.toNat a1+0) (0:UInt64)+(List.getD z15 (Int.toNat a2+0) (0:UInt64)+a6))
 let z19:Nat:=List.length z18
 let z20:Bool:=decide (Int.toNat a4+0<z19)
 let z21:ap:=List.set z18 (Int.toNat a4+0) (rotl (List.getD z18 (Int.toNat a4+0) (0:UInt64)^^^List.getD z18 (Int.toNat a1+0) (0:UInt64)) (-16:Int))
 let z22:Nat:=List.length z21
 let z23:Bool:=decide (Int.toNat a3+0<z22)
 let z24:ap:=List.set z21 (Int.toNat a3+0) (List.getD z21 (Int.toNat a3+0) (0:UInt64)+List.getD z21 (Int.toNat a4+0) (0:UInt64))
 let z25:Nat:=List.length z24
 let z26:Bool:=decide (Int.toNat a2+0<z25)
 (gd [z0,z2,z3,decide (Int.toNat a2+0<z1),z0,z2,z4,z7,z0,decide (Int.toNat a1+0<z6),z4,z7,z8,z11,z4,decide (Int.toNat a4+0<z10),z8,z11,z3,z14,z8,decide (Int.toNat a3+0<z13),z3,z14,z0,z17,z3,decide (Int.toNat a2+0<z16),z0,z17,z4,z20,z0,decide (Int.toNat a1+0<z19),z4,z20,z8,z23,z4,decide (Int.toNat a4+0<z22),z8,z23,z3,z26,z8,decide (Int.toNat a3+0<z25),z3,z26] (.ok ⟨adX,((),List.set z24 (Int.toNat a2+0) (rotl (List.getD z24 (Int.toNat a2+0) (0:UInt64)^^^List.getD z24 (Int.toNat a3+0) (0:UInt64)) (-63:Int)),())⟩))
theorem atH (pre:atI->Bool) (F:atI->OT Lh.Y) (hF:∀ (x:atI) oy,pre x=true->(F x).run=some oy->(aA3 x.1.2.1 x.1.2.2.1 x.1.2.2.2.1 x.1.2.2.2.2.1 x.1.2.2.2.2.2.1 x.1.2.2.2.2.2.2.1 x.2.1).run=some oy):aa aj 200 (Lh.az pre F):=
 dh Pm 200 Tryz.f200 Lh [adX] bE (λx=>aA3 x.1.2.1 x.1.2.2.1 x.1.2.2.2.1 x.1.2.2.2.2.1 x.1.2.2.2.2.2.1 x.1.2.2.2.2.2.2.1 x.2.1) hF
def ax2 (v:ap) (a b c d:Nat) (x y:UInt64):ap:=
 let v1:=v.set a (v.getD a 0+(v.getD b 0+x))
 let v2:=v1.set d (rotl (v1.getD d 0^^^v1.getD a 0) (-32))
 let v3:=v2.set c (v2.getD c 0+v2.getD d 0)
 let v4:=v3.set b (rotl (v3.getD b 0^^^v3.getD c 0) (-24))
 let v5:=v4.set a (v4.getD a 0+(v4.getD b 0+y))
 let v6:=v5.set d (rotl (v5.getD d 0^^^v5.getD a 0) (-16))
 let v7:=v6.set c (v6.getD c 0+v6.getD d 0)
 v7.set b (rotl (v7.getD b 0^^^v7.getD c 0) (-63))
theorem qo (v:ap) (a b c d:Nat) (x y:UInt64):(ax2 v a b c d x y).length=v.length:=by
 simp only [ax2,cy]
def qT (x:atI):Bool:=inB x.1.2.1 16&&inB x.1.2.2.1 16&&inB x.1.2.2.2.1 16&&inB x.1.2.2.2.2.1 16&&decide (x.2.1.length=16)
def aA4 (x:atI):OT Lh.Y:=.ok ⟨adX,((),ax2 x.2.1 x.1.2.1.toNat x.1.2.2.1.toNat x.1.2.2.2.1.toNat x.1.2.2.2.2.1.toNat x.1.2.2.2.2.2.1 x.1.2.2.2.2.2.2.1,())⟩
theorem aEK:aa aj 200 (Lh.az qT aA4):=atH _ _ λx oy hp ho=>by
 rw [<-ho]
 obtain ⟨⟨⟨⟩,a,b,c,d,x,y,⟨⟩⟩,⟨v,⟨⟩⟩⟩:=x
 simp only [qT,aw,decide_eq_true_eq] at hp
 obtain ⟨⟨⟨⟨ha,hb⟩,hc⟩,hd⟩,hv⟩:=hp
 have na:=V1 ha
 have nb:=V1 hb
 have nc:=V1 hc
 have nd:=V1 hd
 refine (ae ?_).trans rfl
 simp only [cy,hv,ha,hb,hc,hd,Nat.add_zero,na,nb,nc,nd,decide_true,aA,aI,Bool.and_self]
def Lf:bx:=(Lh.az qT aA4)
theorem anm:aa aj 200 Lf:=aEK
theorem anl:ax Lf:=av
def aB0:Env:=aq 200 Lf ajr
theorem aju:bU aj te aB0:=aU follows Pm anm anl
def ad8:af:=⟨[aD,eT,im],[iE,(1,.cells [YG])],false,2,true⟩
abbrev aGt:Type:=kR×ap×dp×Unit
def at3:aL:=⟨[aQ],[iE,(1,.cells [YG])],false⟩
def aGr (a0:Int) (c0:ap) (c1_0:aH):OT ad8.Y:=
 let z0:Int:=nib (List.getD c1_0 (Int.toNat a0) (0:UInt8))
 (gd [inB a0 (List.length c1_0),inB z0 16,decide (Int.toNat z0+0<List.length c0)] (.ok ⟨at3,((List.getD c0 (Int.toNat z0+0) (0:UInt64),()),c0,(c1_0,()),())⟩))
theorem azt (pre:aGt->Bool) (F:aGt->OT ad8.Y) (hF:∀ (x:aGt) oy,pre x=true->(F x).run=some oy->(aGr x.1.1 x.2.1 x.2.2.1.1).run=some oy):aa aj 198 (ad8.az pre F):=
 dh aju 198 Tryz.f198 ad8 [at3] bE (λx=>aGr x.1.1 x.2.1 x.2.2.1.1) hF
def atF (m:ap) (row:aH) (i:Int):UInt64:=m.getD (nib (row.getD i.toNat 0)).toNat 0
def qZ (x:aGt):Bool:=inB x.1.1 x.2.2.1.1.length&&inB (nib (x.2.2.1.1.getD x.1.1.toNat 0)) 16&&decide (x.2.1.length=16)
def aGs (x:aGt):OT ad8.Y:=.ok ⟨at3,((atF x.2.1 x.2.2.1.1 x.1.1,()),x.2.1,(x.2.2.1.1,()),())⟩
theorem aGq:aa aj 198 (ad8.az qZ aGs):=azt _ _ λx oy hp ho=>by
 rw [<-ho]
 obtain ⟨⟨i,⟨⟩,⟨⟩,⟨⟩⟩,⟨m,⟨row,⟨⟩⟩,⟨⟩⟩⟩:=x
 simp only [qZ,aw,decide_eq_true_eq] at hp
 obtain ⟨⟨h1,h2⟩,h3⟩:=hp
 have n2:=V1 h2
 refine (ae ?_).trans rfl
 simp only [h1,h2,h3,Nat.add_zero,n2,decide_true,aA,aI,Bool.and_self]
def SQ:bx:=(ad8.az qZ aGs)
theorem at4:aa aj 198 SQ:=aGq
theorem at2:ax SQ:=av
def aGH:Env:=aq 198 SQ aB0
theorem Ah:bU aj te aGH:=aU follows aju at4 at2
def zP:af:=⟨[aus,.val true (.arr 128 .u8),aQ,rA],[],true,0,false⟩
abbrev Yr:Type:=(ap×aH×UInt64×Bool×Unit)×Unit
def azg:Shape:=⟨127,[ej,uo,FO,(9,gn),(11,Cr),(37,aD)],[iE,nQ,lx,nS,Cl],0,true⟩
abbrev eQ:Type:=LD×ap×aH×oX
def wk:Shape:=⟨127,[ej,Cn,Ab,(11,gn)],aiz,0,true⟩
abbrev qY:Type:=LB×oY
def azr (a37:Int) (c0:ap) (c1:aH) (c2:ap) (c3:ap) (c4:ap):OT (Sum eQ aZ):=
 let z0:Bool:=inR ((8:Int)*a37)
 let z1:aH:=List.take (Int.toNat ((8:Int)*a37+(8:Int)-(8:Int)*a37)) (List.drop (Int.toNat ((8:Int)*a37)) c1)
 (.br (decide (a37<(16:Int)))
 (gd [z0,z0,inR ((8:Int)*a37+(8:Int)),decide (128<=List.length c1)&&cm ((8:Int)*a37) ((8:Int)*a37+(8:Int)) 128,mN ((z1,()),()),inB a37 16,decide (Int.toNat a37+0<List.length c4),inR (a37+(1:Int))] (.ok (.inl (((),(),(),(),(),a37+(1:Int),()),c0,c1,c2,c3,List.set c4 (Int.toNat a37+0) (CI z1 (List.length z1)),()))))
 (.ok (.inr ⟨(.exit 0,wk),(((),(),(),(),()),c0,c2,c3,c4,())⟩)))
def G8 (s:eQ):OT (Sum eQ aZ):=azr s.1.2.2.2.2.2.1 s.2.1 s.2.2.1 s.2.2.2.1 s.2.2.2.2.1 s.2.2.2.2.2.1
def aib (g0_0:eQ->qY) (s:eQ):OT aZ:=(.ok ⟨(.exit 0,wk),g0_0 s⟩)
def azf:Shape:=⟨127,aBh,[iE,o3,lx,nS,(4,.row .str)],0,true⟩
abbrev ee:Type:=aA9
def aze:Shape:=⟨127,[ej,Cn,Ab,(11,gn),Co,(16,.fn 198 [3,5]),(51,aD),(59,aD)],auv,0,true⟩
abbrev dg:Type:=(Unit×YD)×auo
def wh:Shape:=⟨127,[ej,Cn,Ab,(11,gn),Co,(16,.fn 198 [3,5]),(51,aD)],auv,0,true⟩
abbrev iJ:Type:=(Unit×LD)×auo
def azp (a51:Int) (a59:Int) (c0:ap) (c1:ap) (c2:ap) (c3:ap) (c4:LC) (c5_0:aH):OT (Sum dg aZ):=
 let z0:Bool:=inR ((2:Int)*a59)
 let z1:Cf:=((),(),())
 let z2:ap×FK×PUnit:=(c3,(c5_0,()),())
 let z3:UInt64:=atF c3 c5_0 ((2:Int)*a59)
 let z4:UInt64:=atF c3 c5_0 ((2:Int)*a59+(1:Int))
 (.br (decide (a59<(4:Int)))
 (gd [inR ((4:Int)+a59),inR ((8:Int)+a59),inR ((12:Int)+a59),z0,qZ (((2:Int)*a59,z1),z2),z0,inR ((2:Int)*a59+(1:Int)),qZ (((2:Int)*a59+(1:Int),z1),z2),qT (((),a59,(4:Int)+a59,(8:Int)+a59,(12:Int)+a59,z3,z4,()),c2,()),inR (a59+(1:Int))] (.ok (.inl (((),(),(),(),(),(),a51,a59+(1:Int),()),c0,c1,ax2 c2 (Int.toNat a59) (Int.toNat ((4:Int)+a59)) (Int.toNat ((8:Int)+a59)) (Int.toNat ((12:Int)+a59)) z3 z4,c3,c4,(c5_0,()),()))))
 (.ok (.inr ⟨(.exit 4,wh),(((),(),(),(),(),(),a51,()),c0,c1,c2,c3,c4,(c5_0,()),())⟩)))
def G6 (s:dg):OT (Sum dg aZ):=azp s.1.2.2.2.2.2.2.1 s.1.2.2.2.2.2.2.2.1 s.2.1 s.2.2.1 s.2.2.2.1 s.2.2.2.2.1 s.2.2.2.2.2.1 s.2.2.2.2.2.2.1.1
def ah9 (g4_4:dg->iJ) (s:dg):OT aZ:=(.ok ⟨(.exit 4,wh),g4_4 s⟩)
def azd:Shape:=⟨127,[ej,Cn,Ab,(11,gn),Co,(16,.fn 198 [3,5]),(51,aD),(80,aD)],auv,0,true⟩
abbrev dJ:Type:=(Unit×YD)×auo
def wg:Shape:=⟨127,aBh,[iE,o3,lx,nS,(4,.row .str)],0,true⟩
abbrev ke:Type:=aA9
def azo (a51:Int) (a80:Int) (c0:ap) (c1:ap) (c2:ap) (c3:ap) (c4:LC) (c5_0:aH):OT (Sum dJ aZ):=
 let z0:Bool:=inR (a80+(1:Int))
 let z1:Int:=(4:Int)+Int.tmod (a80+(1:Int)) (4:Int)
 let z2:Int:=(8:Int)+Int.tmod (a80+(2:Int)) (4:Int)
 let z3:Int:=(12:Int)+Int.tmod (a80+(3:Int)) (4:Int)
 let z4:Bool:=inR ((2:Int)*a80)
 let z5:Cf:=((),(),())
 let z6:ap×FK×PUnit:=(c3,(c5_0,()),())
 let z7:UInt64:=atF c3 c5_0 ((8:Int)+(2:Int)*a80)
 let z8:UInt64:=atF c3 c5_0 ((9:Int)+(2:Int)*a80)
 (.br (decide (a80<(4:Int)))
 (gd [z0,inR z1,inR (a80+(2:Int)),inR z2,inR (a80+(3:Int)),inR z3,z4,inR ((8:Int)+(2:Int)*a80),qZ (((8:Int)+(2:Int)*a80,z5),z6),z4,inR ((9:Int)+(2:Int)*a80),qZ (((9:Int)+(2:Int)*a80,z5),z6),qT (((),a80,z1,z2,z3,z7,z8,()),c2,()),z0] (.ok (.inl (((),(),(),(),(),(),a51,a80+(1:Int),()),c0,c1,ax2 c2 (Int.toNat a80) (Int.toNat z1) (Int.toNat z2) (Int.toNat z3) z7 z8,c3,c4,(c5_0,()),()))))
 (.ok (.inr ⟨(.exit 6,wg),(((),(),(),(),(),a51,()),c0,c1,c2,c3,c4,())⟩)))
def G5 (s:dJ):OT (Sum dJ aZ):=azo s.1.2.2.2.2.2.2.1 s.1.2.2.2.2.2.2.2.1 s.2.1 s.2.2.1 s.2.2.2.1 s.2.2.2.2.1 s.2.2.2.2.2.1 s.2.2.2.2.2.2.1.1
def ah8 (g6_6:dJ->ke) (s:dJ):OT aZ:=(.ok ⟨(.exit 6,wg),g6_6 s⟩)
def wj:Shape:=⟨127,[ej,Cn,Ab],aix,0,true⟩
abbrev qX:Type:=nO×oX
def azq (ok4:dg->Bool) (g4_4:dg->iJ) (ok6:dJ->Bool) (g6_6:dJ->ke) (a51:Int) (c0:ap) (c1:ap) (c2:ap) (c3:ap) (c4:LC):OT (Sum ee aZ):=
 let z0:Int:=Int.tmod a51 (10:Int)
 let z1:dg:=(((),(),(),(),(),(),a51,(0:Int),()),c0,c1,c2,c3,c4,(List.getD c4 (Int.toNat z0+0) [],()),())
 let z2:iJ:=g4_4 z1
 let z3:=z2.snd
 let z4:=z3.snd
 let z5:=z4.snd
 let z6:=z5.snd
 let z7:=z6.snd
 let z8:dg:=(((),(),(),(),(),(),z2.fst.snd.snd.snd.snd.snd.snd.fst,(0:Int),()),z3.fst,z4.fst,z5.fst,z6.fst,z7.fst,(z7.snd.fst.fst,()),())
 let z9:ee:=g6_6 z8
 let z10:=z9.snd
 let z11:=z10.snd
 let z12:=z11.snd
 let z13:=z12.snd
 (.br (decide (a51<(12:Int)))
 (gd [inB z0 10,decide (Int.toNat z0+0<List.length c4),ok4 z1,ok6 z8,inR (z9.fst.snd.snd.snd.snd.snd.fst+(1:Int))] (.ok (.inl (((),(),(),(),(),z9.fst.snd.snd.snd.snd.snd.fst+(1:Int),()),z10.fst,z11.fst,z12.fst,z13.fst,z13.snd.fst,()))))
 (.ok (.inr ⟨(.exit 2,wj),(((),(),(),()),c0,c1,c2,())⟩)))
def G7 (ok4:dg->Bool) (g4_4:dg->iJ) (ok6:dJ->Bool) (g6_6:dJ->ke) (s:ee):OT (Sum ee aZ):=azq ok4 g4_4 ok6 g6_6 s.1.2.2.2.2.2.1 s.2.1 s.2.2.1 s.2.2.2.1 s.2.2.2.2.1 s.2.2.2.2.2.1
def aia (g2_2:ee->qX) (s:ee):OT aZ:=(.ok ⟨(.exit 2,wj),g2_2 s⟩)
def azc:Shape:=⟨127,[ej,Cn,Ab,(109,aD)],aix,0,true⟩
abbrev eP:Type:=(Unit×mW)×oX
def we:Shape:=⟨127,[ej,Cn],uq,0,true⟩
abbrev qW:Type:=mT
def azn (a109:Int) (c0:ap) (c1:ap) (c2:ap):OT (Sum eP aZ):=
 let z0:Bool:=inB a109 8
 let z1:Bool:=decide (Int.toNat a109+0<List.length c0)
 let z2:Nat:=List.length c2
 (.br (decide (a109<(8:Int)))
 (gd [z0,z1,inB a109 16,decide (Int.toNat a109+0<z2),inR (a109+(8:Int)),inB (a109+(8:Int)) 16,decide (Int.toNat (a109+(8:Int))+0<z2),z0,z1,inR (a109+(1:Int))] (.ok (.inl (((),(),(),a109+(1:Int),()),List.set c0 (Int.toNat a109+0) (List.getD c0 (Int.toNat a109+0) (0:UInt64)^^^(List.getD c2 (Int.toNat a109+0) (0:UInt64)^^^List.getD c2 (Int.toNat (a109+(8:Int))+0) (0:UInt64))),c1,c2,()))))
 (.ok (.inr ⟨(.exit 8,we),(((),(),()),c0,c1,())⟩)))
def G4 (s:eP):OT (Sum eP aZ):=azn s.1.2.2.2.1 s.2.1 s.2.2.1 s.2.2.2.1
def ah7 (g8_8:eP->qW) (s:eP):OT aZ:=(.ok ⟨(.exit 8,we),g8_8 s⟩)
def G3:aL:=⟨[aus],[],false⟩
def atY (ok0:eQ->Bool) (g0_0:eQ->qY) (ok4:dg->Bool) (g4_4:dg->iJ) (ok6:dJ->Bool) (g6_6:dJ->ke) (ok2:ee->Bool) (g2_2:ee->qX) (ok8:eP->Bool) (g8_8:eP->qW) (a0:ap) (a1:aH) (a2:UInt64) (a3:Bool):OT zP.Y:=
 let z0:PUnit×PUnit×aul:=((),(),(),(),(),(0:Int),())
 let z1:ap:=tab a0 8 (0:UInt64)
 let z2:aH:=tab a1 128 (0:UInt8)
 let z3:ap:= []++(List.take 8 z1++List.drop (0+min (List.length z1) 8) [(0:UInt64),(0:UInt64),(0:UInt64),(0:UInt64),(0:UInt64),(0:UInt64),(0:UInt64),(0:UInt64),(0:UInt64),(0:UInt64),(0:UInt64),(0:UInt64),(0:UInt64),(0:UInt64),(0:UInt64),(0:UInt64)])
 let z4:ap:=List.take 8 z3++([(7640891576956012808:UInt64),(13503953896175478587:UInt64),(4354685564936845355:UInt64),(11912009170470909681:UInt64),(5840696475078001361:UInt64),(11170449401992604703:UInt64),(2270897969802886507:UInt64),(6620516959819538809:UInt64)]++List.drop 16 z3)
 let z5:ap:=List.set z4 12 (List.getD z4 12 0^^^a2)
 let z6:ap×PUnit:=([(0:UInt64),(0:UInt64),(0:UInt64),(0:UInt64),(0:UInt64),(0:UInt64),(0:UInt64),(0:UInt64),(0:UInt64),(0:UInt64),(0:UInt64),(0:UInt64),(0:UInt64),(0:UInt64),(0:UInt64),(0:UInt64)],())
 let z7:eQ:=(z0,z1,z2,[(0:UInt64),(0:UInt64),(0:UInt64),(0:UInt64),(0:UInt64),(0:UInt64),(0:UInt64),(0:UInt64)],List.set z5 14 (~~~List.getD z5 14 0),z6)
 let z8:PUnit×PUnit×aul:=((),(),(),(),(),(0:Int),())
 let z9:=(g0_0 z7).snd
 let z10:=z9.snd
 let z11:=z10.snd
 let z12:LC×PUnit:=([List.getD iQ 0 [],List.getD iQ 1 [],List.getD iQ 2 [],List.getD iQ 3 [],List.getD iQ 4 [],List.getD iQ 5 [],List.getD iQ 6 [],List.getD iQ 7 [],List.getD iQ 8 [],List.getD iQ 9 []],())
 let z13:ee:=(z8,z9.fst,z10.fst,z11.fst,z11.snd.fst,z12)
 let z14:aul:=((),(),(),(0:Int),())
 let z15:=(g2_2 z13).snd
 let z16:=z15.snd
 let z17:eP:=(z14,z15.fst,z16.fst,z16.snd.fst,())
 let z18:=(g8_8 z17).snd
 let z19:=z18.fst
 let z20:=z18.snd.fst
 let z21:ap:=lay z20 z19 8 (0:UInt64)
 let z22:eQ:=(z0,z1,z2,[(0:UInt64),(0:UInt64),(0:UInt64),(0:UInt64),(0:UInt64),(0:UInt64),(0:UInt64),(0:UInt64)],z5,z6)
 let z23:=(g0_0 z22).snd
 let z24:=z23.snd
 let z25:=z24.snd
 let z26:ee:=(z8,z23.fst,z24.fst,z25.fst,z25.snd.fst,z12)
 let z27:=(g2_2 z26).snd
 let z28:=z27.snd
 let z29:eP:=(z14,z27.fst,z28.fst,z28.snd.fst,())
 let z30:=(g8_8 z29).snd
 let z31:=z30.fst
 let z32:=z30.snd.fst
 let z33:ap:=lay z32 z31 8 (0:UInt64)
 (.br (a3)
 (gd [ok0 z7,ok2 z13,ok8 z17,decide (8<=List.length z19),decide ((8/1:Nat)+0<=List.length z20),decide (8<=List.length z21)] (.ok ⟨G3,((tab z21 8 (0:UInt64),()),())⟩))
 (gd [ok0 z22,ok2 z26,ok8 z29,decide (8<=List.length z31),decide ((8/1:Nat)+0<=List.length z32),decide (8<=List.length z33)] (.ok ⟨G3,((tab z33 8 (0:UInt64),()),())⟩)))
theorem ano (ok0:eQ->Bool) (g0_0:eQ->qY) (ok4:dg->Bool) (g4_4:dg->iJ) (ok6:dJ->Bool) (g6_6:dJ->ke) (ok2:ee->Bool) (g2_2:ee->qX) (ok8:eP->Bool) (g8_8:eP->qW) (h0:bh G8 ok0 (aib g0_0)) (h4:bh G6 ok4 (ah9 g4_4)) (h6:bh G5 ok6 (ah8 g6_6)) (h2:bh (G7 ok4 g4_4 ok6 g6_6) ok2 (aia g2_2)) (h8:bh G4 ok8 (ah7 g8_8)) (pre:Yr->Bool) (F:Yr->OT zP.Y) (hF:∀ (x:Yr) oy,pre x=true->(F x).run=some oy->(atY ok0 g0_0 ok4 g4_4 ok6 g6_6 ok2 g2_2 ok8 g8_8 x.1.1 x.1.2.1 x.1.2.2.1 x.1.2.2.2.1).run=some oy):aa aj 183 (zP.az pre F):=
 dh Ah 183 Tryz.f183 zP [G3] (kZ Ah 8 azc [(8,we)] none none G4 bE h8 (kZ Ah 2 azf [(2,wj)] none none (G7 ok4 g4_4 ok6 g6_6) (kZ Ah 6 azd [(6,wg)] none none G5 bE h6 (kZ Ah 4 aze [(4,wh)] none none G6 bE h4 bE)) h2 (kZ Ah 0 azg [(0,wk)] none none G8 bE h0 bE))) (λx=>atY ok0 g0_0 ok4 g4_4 ok6 g6_6 ok2 g2_2 ok8 g8_8 x.1.1 x.1.2.1 x.1.2.2.1 x.1.2.2.2.1) hF
def azM (b:aH) (i:Nat):UInt64:=CI ((b.drop (8*i)).take 8) 8
def xn (b:aH):ap:=upto (λk m=>m.set k (azM b k)) (List.replicate 16 0) 16
def Qa (row:aH):Bool:=decide (row.length=16)&&(List.range 16).all λi=>inB (nib (row.getD i 0)) 16
theorem ao6 {row:List UInt8} (h:Qa row=true) {i:Nat} (hi:i<16):inB (nib (row.getD i 0)) 16=true:=by
 simp only [Qa,aw,fX] at h
 exact h.2 i (by simpa using hi)
theorem wm {m:List UInt64} {row:List UInt8} (hm:m.length=16) (hr:Qa row=true) {i:Int} (h0:0<=i) (h1:i<16) (u:mX) (u2:Unit) (u3:Unit):qZ ((i,u),m,(row,u2),u3)=true:=by
 have hl:row.length=16:=by
  simp only [Qa,aw,decide_eq_true_eq] at hr
  exact hr.1
 have:=ao6 hr (i:=i.toNat) (by omega)
 simp only [qZ,aw,decide_eq_true_eq]
 exact ⟨⟨ba (by omega),this⟩,hm⟩
theorem Lg {v:List UInt64} (hv:v.length=16) {a b c d:Int} (ha:0<=a/\a<16) (hb:0<=b/\b<16) (hc:0<=c/\c<16) (hd:0<=d/\d<16) (x y:UInt64) (u1 u2 u3:Unit):qT ((u1,a,b,c,d,x,y,u2),v,u3)=true:=by
 simp only [qT,aw,decide_eq_true_eq]
 exact ⟨⟨⟨⟨ba ha,ba hb⟩,ba hc⟩,ba hd⟩,hv⟩
def Lv (s:eQ):Bool:=decide (s.1.2.2.2.2.2.1=0/\s.2.2.1.length=128/\s.2.2.2.2.2.1=List.replicate 16 0)
def wc (s:eQ):qY:=(((),(),(),(),()),s.2.1,s.2.2.2.1,s.2.2.2.2.1,xn s.2.2.1,())
theorem azm:bh G8 Lv (aib wc):=by
 rintro ⟨⟨⟨⟩,⟨⟩,⟨⟩,⟨⟩,⟨⟩,i,⟨⟩⟩,⟨c0,c1,c2,c3,c4,⟨⟩⟩⟩ h
 have h':=bn h
 dsimp only at h'
 obtain ⟨rfl,hl,rfl⟩:=h'
 have:=(bf (T:=G8) (λk m=>((((),(),(),(),(),(k:Int),()),c0,c1,c2,c3,m,()):eQ)) (λk m=>m.set k (azM c1 k))
  (λm=>(⟨(.exit 0,wk),(((),(),(),(),()),c0,c2,c3,m,())⟩:aZ)) 16 (List.replicate 16 0) (λ_ m=>m.length=16) (by simp) (λk m hk hm=>⟨?_,by rw [cy];exact hm⟩) (λm hm=> ?_)).1
 ·obtain ⟨n,hn⟩:=this
  exact ⟨n,_,hn,rfl⟩
 ·have e1:(8*(k:Int)+8-8*(k:Int)).toNat=8:=by omega
  have e2:(8*(k:Int)).toNat=8*k:=by omega
  have hw:((c1.drop (8*k)).take 8).length=8:=by simp;omega
  refine (OT.ak (ag (by dsimp only;omega))).trans ((ae ?_).trans ?_)
  ·simp only [e1,e2,hl,hm,aA,aI,aJ,aw]
   refine ⟨aS (by omega),aS (by omega),aS (by omega),⟨by decide,cF (by omega)⟩,?_,ba (by omega),ag (by omega),aS (by omega)⟩
   simp only [mN,hw]
   decide
  ·simp only [OT.jb,e1,e2,hw,Nat.add_zero]
   rfl
 ·exact OT.au (bq (by dsimp only;omega))
def arp (m:ap) (row:aH) (v:ap):ap:=upto (λk v=>ax2 v k (4+k) (8+k) (12+k) (atF m row (2*(k:Int))) (atF m row (2*(k:Int)+1))) v 4
def aro (m:ap) (row:aH) (v:ap):ap:=upto (λk v=>ax2 v k (4+(k+1)%4) (8+(k+2)%4) (12+(k+3)%4) (atF m row (8+2*(k:Int))) (atF m row (9+2*(k:Int)))) v 4
theorem tj (m:ap) (row:aH) (v:ap):(arp m row v).length=v.length:=by simp only [arp,upto,qo]
theorem Fu (m:ap) (row:aH) (v:ap):(aro m row v).length=v.length:=by simp only [aro,upto,qo]
def oQ (s:dg):Bool:=decide (s.1.2.2.2.2.2.2.2.1=0/\s.2.2.2.1.length=16/\s.2.2.2.2.1.length=16)&&Qa s.2.2.2.2.2.2.1.1
def qV (s:dg):iJ:=(((),(),(),(),(),(),s.1.2.2.2.2.2.2.1,()),s.2.1,s.2.2.1,arp s.2.2.2.2.1 s.2.2.2.2.2.2.1.1 s.2.2.2.1,s.2.2.2.2.1,s.2.2.2.2.2.1,(s.2.2.2.2.2.2.1.1,()),())
theorem azk:bh G6 oQ (ah9 qV):=by
 rintro ⟨⟨⟨⟩,⟨⟩,⟨⟩,⟨⟩,⟨⟩,⟨⟩,r,i,⟨⟩⟩,⟨c0,c1,v,m,c4,⟨row,⟨⟩⟩,⟨⟩⟩⟩ h
 simp only [oQ,aw,decide_eq_true_eq] at h
 obtain ⟨⟨rfl,hv,hm⟩,hr⟩:=h
 have:=(bf (T:=G6) (λk v=>((((),(),(),(),(),(),r,(k:Int),()),c0,c1,v,m,c4,(row,()),()):dg)) (λk v=>ax2 v k (4+k) (8+k) (12+k) (atF m row (2*(k:Int))) (atF m row (2*(k:Int)+1)))
  (λv=>(⟨(.exit 4,wh),(((),(),(),(),(),(),r,()),c0,c1,v,m,c4,(row,()),())⟩:aZ)) 4 v (λ_ v=>v.length=16) hv (λk v hk hv=>⟨?_,by rw [qo];exact hv⟩) (λv hv=> ?_)).1
 ·obtain ⟨n,hn⟩:=this
  exact ⟨n,_,hn,rfl⟩
 ·have e1:(4+(k:Int)).toNat=4+k:=by omega
  have e2:(8+(k:Int)).toNat=8+k:=by omega
  have e3:(12+(k:Int)).toNat=12+k:=by omega
  refine (OT.ak (ag (by dsimp only;omega))).trans ((ae ?_).trans ?_)
  ·simp only [aA,aI,aJ,aw]
   exact ⟨aS (by omega),aS (by omega),aS (by omega),aS (by omega),wm hm hr (by omega) (by omega) _ _ _,aS (by omega),aS (by omega),wm hm hr (by omega) (by omega) _ _ _,Lg hv (by omega) (by omega) (by omega) (by omega) _ _ _ _ _,aS (by omega)⟩
  ·simp only [OT.jb,e1,e2,e3]
   rfl
 ·exact OT.au (bq (by dsimp only;omega))
def oP (s:dJ):Bool:=decide (s.1.2.2.2.2.2.2.2.1=0/\s.2.2.2.1.length=16/\s.2.2.2.2.1.length=16)&&Qa s.2.2.2.2.2.2.1.1
def wa (s:dJ):ke:=(((),(),(),(),(),s.1.2.2.2.2.2.2.1,()),s.2.1,s.2.2.1,aro s.2.2.2.2.1 s.2.2.2.2.2.2.1.1 s.2.2.2.1,s.2.2.2.2.1,s.2.2.2.2.2.1,())
theorem azj:bh G5 oP (ah8 wa):=by
 rintro ⟨⟨⟨⟩,⟨⟩,⟨⟩,⟨⟩,⟨⟩,⟨⟩,r,i,⟨⟩⟩,⟨c0,c1,v,m,c4,⟨row,⟨⟩⟩,⟨⟩⟩⟩ h
 simp only [oP,aw,decide_eq_true_eq] at h
 obtain ⟨⟨rfl,hv,hm⟩,hr⟩:=h
 have:=(bf (T:=G5) (λk v=>((((),(),(),(),(),(),r,(k:Int),()),c0,c1,v,m,c4,(row,()),()):dJ)) (λk v=>ax2 v k (4+(k+1)%4) (8+(k+2)%4) (12+(k+3)%4) (atF m row (8+2*(k:Int))) (atF m row (9+2*(k:Int))))
  (λv=>(⟨(.exit 6,wg),(((),(),(),(),(),r,()),c0,c1,v,m,c4,())⟩:aZ)) 4 v (λ_ v=>v.length=16) hv (λk v hk hv=>⟨?_,by rw [qo];exact hv⟩) (λv hv=> ?_)).1
 ·obtain ⟨n,hn⟩:=this
  exact ⟨n,_,hn,rfl⟩
 ·have t1:Int.tmod ((k:Int)+1) 4=(((k+1)%4:Nat):Int):=by rw [Int.tmod_eq_emod_of_nonneg (by omega)];omega
  have t2:Int.tmod ((k:Int)+2) 4=(((k+2)%4:Nat):Int):=by rw [Int.tmod_eq_emod_of_nonneg (by omega)];omega
  have t3:Int.tmod ((k:Int)+3) 4=(((k+3)%4:Nat):Int):=by rw [Int.tmod_eq_emod_of_nonneg (by omega)];omega
  have e1:(4+(((k+1)%4:Nat):Int)).toNat=4+(k+1)%4:=by omega
  have e2:(8+(((k+2)%4:Nat):Int)).toNat=8+(k+2)%4:=by omega
  have e3:(12+(((k+3)%4:Nat):Int)).toNat=12+(k+3)%4:=by omega
  refine (OT.ak (ag (by dsimp only;omega))).trans ((ae ?_).trans ?_)
  ·simp only [t1,t2,t3,aA,aI,aJ,aw]
   exact ⟨aS (by omega),aS (by omega),aS (by omega),aS (by omega),aS (by omega),aS (by omega),aS (by omega),aS (by omega),wm hm hr (by omega) (by omega) _ _ _,aS (by omega),aS (by omega),wm hm hr (by omega) (by omega) _ _ _,Lg hv (by omega) (by omega) (by omega) (by omega) _ _ _ _ _,aS (by omega)⟩
  ·simp only [OT.jb,t1,t2,t3,e1,e2,e3]
   rfl
 ·exact OT.au (bq (by dsimp only;omega))
def rowAt (k:Nat):aH:=iQ.getD (k%10) []
theorem awJ (k:Nat):Qa (rowAt k)=true:=by
 have:k%10<10:=Nat.mod_lt _ (by decide)
 unfold rowAt
 generalize k%10=j at this
 have h:∀ j:Fin 10,Qa (iQ.getD j.val [])=true:=by decide+kernel
 exact h ⟨j,this⟩
def AQ (m:ap) (v:ap):ap:=upto (λk v=>aro m (rowAt k) (arp m (rowAt k) v)) v 12
theorem o9 {f:Nat->List UInt64->List UInt64} (hf:∀ k v,(f k v).length=v.length) (v:ap):∀ n,(upto f v n).length=v.length
 |0=>rfl
 |n+1=>by simp only [upto,hf,o9 hf v n]
def Lu (s:ee):Bool:=decide (s.1.2.2.2.2.2.1=0/\s.2.2.2.1.length=16/\s.2.2.2.2.1.length=16/\s.2.2.2.2.2.1=iQ)
def wb (s:ee):qX:=(((),(),(),()),s.2.1,s.2.2.1,AQ s.2.2.2.2.1 s.2.2.2.1,())
theorem azl:bh (G7 oQ qV oP wa) Lu (aia wb):=by
 rintro ⟨⟨⟨⟩,⟨⟩,⟨⟩,⟨⟩,⟨⟩,i,⟨⟩⟩,⟨c0,c1,v,m,c4,⟨⟩⟩⟩ h
 have h':=bn h
 dsimp only at h'
 obtain ⟨rfl,hv,hm,rfl⟩:=h'
 have:=(bf (T:=G7 oQ qV oP wa) (λk v=>((((),(),(),(),(),(k:Int),()),c0,c1,v,m,iQ,()):ee)) (λk v=>aro m (rowAt k) (arp m (rowAt k) v))
  (λv=>(⟨(.exit 2,wj),(((),(),(),()),c0,c1,v,())⟩:aZ)) 12 v (λ_ v=>v.length=16) hv (λk v hk hv=>⟨?_,by rw [Fu,tj];exact hv⟩) (λv hv=> ?_)).1
 ·obtain ⟨n,hn⟩:=this
  exact ⟨n,_,hn,rfl⟩
 ·have t1:Int.tmod (k:Int) 10=((k%10:Nat):Int):=by rw [Int.tmod_eq_emod_of_nonneg (by omega)];omega
  have e1:((k%10:Nat):Int).toNat=k%10:=by omega
  have hr:Qa (iQ.getD (k%10) [])=true:=awJ k
  refine (OT.ak (ag (by dsimp only;omega))).trans ((ae ?_).trans ?_)
  ·simp only [t1,e1,aA,aI,aJ,aw]
   refine ⟨ba (by omega),ag (show k%10+0<10 by omega),?_,?_,?_⟩
   ·simp only [oQ,aw,decide_eq_true_eq]
    exact ⟨⟨trivial,hv,hm⟩,hr⟩
   ·simp only [oP,qV,aw,decide_eq_true_eq]
    exact ⟨⟨trivial,by rw [tj];exact hv,hm⟩,hr⟩
   ·exact aS (by simp only [wa,qV];omega)
  ·have hrow:iQ.getD (k%10) []=rowAt k:=rfl
   simp only [OT.jb,t1,e1,Nat.add_zero,wa,qV,hrow]
   rfl
 ·exact OT.au (bq (by dsimp only;omega))
def agt (h v:ap):ap:=upto (λk h=>h.set k (h.getD k 0^^^(v.getD k 0^^^v.getD (k+8) 0))) h 8
def Lt (s:eP):Bool:=decide (s.1.2.2.2.1=0/\s.2.1.length=8/\s.2.2.2.1.length=16)
def v9 (s:eP):qW:=(((),(),()),agt s.2.1 s.2.2.2.1,s.2.2.1,())
theorem azi:bh G4 Lt (ah7 v9):=by
 rintro ⟨⟨⟨⟩,⟨⟩,⟨⟩,i,⟨⟩⟩,⟨h,c1,v,⟨⟩⟩⟩ hh
 have h':=bn hh
 dsimp only at h'
 obtain ⟨rfl,hl,hv⟩:=h'
 have:=(bf (T:=G4) (λk h=>((((),(),(),(k:Int),()),h,c1,v,()):eP)) (λk h=>h.set k (h.getD k 0^^^(v.getD k 0^^^v.getD (k+8) 0)))
  (λh=>(⟨(.exit 8,we),(((),(),()),h,c1,())⟩:aZ)) 8 h (λ_ h=>h.length=8) hl (λk h hk hl=>⟨?_,by rw [cy];exact hl⟩) (λh hl=> ?_)).1
 ·obtain ⟨n,hn⟩:=this
  exact ⟨n,_,hn,rfl⟩
 ·have e1:((k:Int)+8).toNat=k+8:=by omega
  refine (OT.ak (ag (by dsimp only;omega))).trans ((ae ?_).trans ?_)
  ·simp only [e1,hl,hv,aA,aI,aJ,aw]
   exact ⟨ba (by omega),ag (by omega),ba (by omega),ag (by omega),aS (by omega),ba (by omega),ag (by omega),ba (by omega),ag (by omega),aS (by omega)⟩
  ·simp only [OT.jb,e1,Nat.add_zero]
   rfl
 ·exact OT.au (bq (by dsimp only;omega))
def Q1 (h:ap) (count:UInt64) (last:Bool):ap:=
 let v:=(h++bIV).set 12 ((h++bIV).getD 12 0^^^count)
 cond last (v.set 14 (~~~v.getD 14 0)) v
def Ek (h:ap) (b:aH) (count:UInt64) (last:Bool):ap:=agt h (AQ (xn b) (Q1 h count last))
theorem Ma (b:aH):(xn b).length=16:=by
 unfold xn;rw [o9 (λk v=>cy)];rfl
theorem H5 (m v:ap):(AQ m v).length=v.length:=o9 (λk v=>by rw [Fu,tj]) v 12
theorem Bh (h v:ap):(agt h v).length=h.length:=o9 (λk v=>cy) h 8
theorem FJ {b:List UInt8} {c0 c2 c3:List UInt64} (hb:b.length=128):Lv (((),(),(),(),(),0,()),c0,b,c2,c3,[0,0,0,0,0,0,0,0,0,0,0,0,0,0,0,0],())=true:=ag ⟨rfl,hb,rfl⟩
theorem FI {c0 c1 v m:List UInt64} (hv:v.length=16) (hm:m.length=16):Lu (((),(),(),(),(),0,()),c0,c1,v,m,iQ,())=true:=ag ⟨rfl,hv,hm,rfl⟩
theorem FH {c0 c1 v:List UInt64} (h0:c0.length=8) (hv:v.length=16):Lt (((),(),(),0,()),c0,c1,v,())=true:=ag ⟨rfl,h0,hv⟩
def Ls (x:Yr):Bool:=decide (x.1.1.length=8/\x.1.2.1.length=128)
def atZ (x:Yr):OT zP.Y:=.ok ⟨G3,((Ek x.1.1 x.1.2.1 x.1.2.2.1 x.1.2.2.2.1,()),())⟩
theorem azh:aa aj 183 (zP.az Ls atZ):=ano Lv wc oQ qV oP wa Lu wb Lt v9 azm azk azj azl azi _ _ λx oy hp ho=>by
 rw [<-ho]
 obtain ⟨⟨h,b,count,last,⟨⟩⟩,⟨⟩⟩:=x
 simp only [Ls,decide_eq_true_eq] at hp
 obtain ⟨hh,hb⟩:=hp
 have t1:tab h 8 0=h:=AE hh
 have t2:tab b 128 0=b:=AE hb
 have t3:tab iQ 10 []=iQ:=AE rfl
 have v1: []++(List.take 8 h++List.drop (0+min h.length 8) [(0:UInt64),0,0,0,0,0,0,0,0,0,0,0,0,0,0,0])=h++List.replicate 8 0:=by
  rw [hh,List.nil_append,List.take_of_length_le (by omega)];rfl
 have v2:List.take 8 (h++List.replicate 8 (0:UInt64))++(bIV++List.drop 16 (h++List.replicate 8 (0:UInt64)))=h++bIV:=by
  rw [List.take_append_of_le_length (by omega),List.take_of_length_le (by omega),List.drop_eq_nil_of_le (by simp;omega),List.append_nil]
 have hv:∀ c l,(Q1 h c l).length=16:=λc l=>by
  unfold Q1
  cases l<;>simp [hh]<;>rfl
 have hm:(xn b).length=16:=Ma b
 have hr:∀ c l,(AQ (xn b) (Q1 h c l)).length=16:=λc l=>by rw [H5];exact hv c l
 have hM:∀ c l,(Ek h b c l).length=8:=λc l=>by unfold Ek;rw [Bh];exact hh
 have e8: [(7640891576956012808:UInt64),13503953896175478587,4354685564936845355,11912009170470909681,5840696475078001361,11170449401992604703,2270897969802886507,6620516959819538809]=bIV:=rfl
 have key:∀ M:List UInt64,M.length=8->tab (lay [(0:UInt64),0,0,0,0,0,0,0] M 8 0) 8 0=M:=λM hM=>by rw [VD (n:=8) rfl hM,AE hM]
 have l1:List.set (h++bIV) 12 ((h++bIV).getD 12 0^^^count)=Q1 h count false:=rfl
 have l2:List.set (Q1 h count false) 14 (~~~(Q1 h count false).getD 14 0)=Q1 h count true:=rfl
 have l3:∀ c l,agt h (AQ (xn b) (Q1 h c l))=Ek h b c l:=λ_ _=>rfl
 cases last
 ·refine (OT.au rfl).trans ((ae ?_).trans ?_)
  ·simp only [t1,t2,t3,v1,aA,aI,aJ,aw]
   rw [e8]
   simp only [v2,wc,wb,v9,l1,l3,ot,hM]
   exact ⟨FJ hb,FI (hv _ _) hm,FH hh (hr _ _),rfl,rfl,rfl⟩
  ·simp only [t1,t2,t3,v1]
   rw [e8]
   simp only [v2,wc,wb,v9,l1,l3]
   rw [key _ (hM _ _)]
   rfl
 ·refine (OT.ak rfl).trans ((ae ?_).trans ?_)
  ·simp only [t1,t2,t3,v1,aA,aI,aJ,aw]
   rw [e8]
   simp only [v2,wc,wb,v9,l1,l2,l3,ot,hM]
   exact ⟨FJ hb,FI (hv _ _) hm,FH hh (hr _ _),rfl,rfl,rfl⟩
  ·simp only [t1,t2,t3,v1]
   rw [e8]
   simp only [v2,wc,wb,v9,l1,l2,l3]
   rw [key _ (hM _ _)]
   rfl
def EB:bx:=(zP.az Ls atZ)
theorem ad6:aa aj 183 EB:=azh
theorem ad5:ax EB:=av
def aek:Env:=aq 183 EB aGH
theorem L7:bU aj te aek:=aU follows Ah ad6 ad5
def jF:af:=⟨[iS],[],true,0,false⟩
abbrev ad7:Type:=dp×Unit
def uh:aL:=⟨[.own 0],Ad,false⟩
def ON:SV->Option aL:=λ_=>some uh
def SP (a0:aH):OT jF.Y:=
 (gd [decide (((0:Nat)+List.length a0)*(1:Nat)<=(140737488355328:Nat))] (.ok ⟨uh,(((),()),[]++a0,())⟩))
def at1:OT jF.Y:=.ok ⟨uh,(((),()),[],())⟩
theorem azs (x:ad7) (Q:jF.Y->Prop):wpf te aek fR 1000 Tryz.f55 (jF.inp.inj x).tm (jF.inp.inj x).hp (fnK jF ON Q) (λ_ _=>False)=
 Bool.rec (motive:=λ_=>Prop) ((SP x.1.1).wpR Q) (at1.wpR Q/\(SP x.1.1).wpR Q) (List.isEmpty x.1.1):=by kernel_rfl
def eH (x:ad7):Bool:=decide (x.1.1.length<=140737488355328)
def aic (x:ad7):OT jF.Y:=.ok ⟨uh,(((),()),x.1.1,())⟩
theorem at0:aa aj 55 (jF.az eH aic):=by
 refine ays Mb L7.ok L7.any (f:=55) (fn:=Tryz.f55) (c:=mK Tryz.f55) (by kernel_rfl) (by kernel_rfl) (by kernel_rfl) (S:=jF) (k:=0) (by kernel_rfl) (Λ:=fR) (λR hR=>Bl) (n:=1000) λx oy hp hr=>⟨fnK jF ON (λz=>z=oy),λ_ _=>False,?_,λv hp hq=> ?_,λ_ _ hq=>hq.elim⟩
 ·refine (azs x _).mpr ?_
  cases hr
  have hp':x.1.1.length<=140737488355328:=bn hp
  have h1:(SP x.1.1).wpR (λz=>z=⟨uh,(((),()),x.1.1,())⟩):=by
   rw [OT.ES]
   refine OT.iV (ae ?_) rfl
   simp only [aA,aI,aJ]
   exact ag (by omega)
  cases hb:List.isEmpty x.1.1
  ·exact h1
  ·refine ⟨?_,h1⟩
   rw [List.isEmpty_iff.1 hb]
   rfl
 ·unfold fnK at hq
  split at hq
  ·rename_i o ho
   split at hq
   ·rename_i y hy
    subst hq
    exact ⟨by cases ho;rfl,hy⟩
   ·exact hq.elim
  ·exact hq.elim
def zQ:bx:=(jF.az eH aic)
theorem Yt:aa aj 55 zQ:=at0
theorem Ys:ax zQ:=av
def ajx:Env:=aq 55 zQ aek
theorem Pp:bU aj te ajx:=aU follows L7 Yt Ys
def Lc:af:=⟨[YG,aD],[],true,0,false⟩
abbrev atE:Type:=(aH×eS)×Unit
def Lb:aL:=⟨[.rK,aD],[],false⟩
def adV:aL:=⟨FQ,[YK,nQ],false⟩
def OI (a0:aH) (a1:Int):OT Lc.Y:=
 let z0:aH:=List.take 16 a0++List.drop (List.length a0) [(0:UInt8),(0:UInt8),(0:UInt8),(0:UInt8),(0:UInt8),(0:UInt8),(0:UInt8),(0:UInt8),(0:UInt8),(0:UInt8),(0:UInt8),(0:UInt8),(0:UInt8),(0:UInt8),(0:UInt8),(0:UInt8)]
 let z1:Bool:=decide (16<=List.length z0)&&true
 let z2:aH:=List.take 8 (List.drop 0 z0)
 let z3:aH:=List.take 8 (List.drop 8 z0)
 (.br (decide ((16:Int)<(↑(List.length a0):Int)))
 (.ok ⟨Lb,(((),(30:Int),()),())⟩)
 (.br (decide (a1<(1:Int)))
  (.ok ⟨Lb,(((),(30:Int),()),())⟩)
  (.br (decide ((64:Int)<a1))
   (.ok ⟨Lb,(((),(30:Int),()),())⟩)
   (gd [z1,mN ((z2,()),()),z1,mN ((z3,()),())] (.ok ⟨adV,(((),(0:Int),()),(a1,(7640891576956012808:UInt64)^^^(16842752:UInt64)+i2u a1,(13503953896175478587:UInt64),(4354685564936845355:UInt64),(11912009170470909681:UInt64),(5840696475078001361:UInt64),(11170449401992604703:UInt64),(2270897969802886507:UInt64)^^^CI z2 (List.length z2),(6620516959819538809:UInt64)^^^CI z3 (List.length z3),(),(0:UInt64),()),[],())⟩)))))
theorem atD (pre:atE->Bool) (F:atE->OT Lc.Y) (hF:∀ (x:atE) oy,pre x=true->(F x).run=some oy->(OI x.1.1 x.1.2.1).run=some oy):aa aj 108 (Lc.az pre F):=
 dh Pp 108 Tryz.f108 Lc [Lb,adV] bE (λx=>OI x.1.1 x.1.2.1) hF
def aa5 (p:aH):aH:=p.take 16++(List.replicate 16 (0:UInt8)).drop p.length
def oR (p:aH) (n:Int):Bool:=decide (16<(p.length:Int))||decide (n<1)||decide (64<n)
theorem Vd {p:List UInt8} (h:p.length<=16):(aa5 p).length=16:=by
 simp only [aa5,bK,bQ,cq,fW]
 omega
abbrev aHV:Type:=OV
def anw (n:Int) (h:ap) (c:UInt64):aHV:=(n,h.getD 0 0,h.getD 1 0,h.getD 2 0,h.getD 3 0,h.getD 4 0,h.getD 5 0,h.getD 6 0,h.getD 7 0,(),c,())
def avn (p:aH) (n:Int):ap:= [0x6a09e667f3bcc908^^^(16842752+i2u n),0xbb67ae8584caa73b,0x3c6ef372fe94f82b,0xa54ff53a5f1d36f1,0x510e527fade682d1,0x9b05688c2b3e6c1f,
 0x1f83d9abfb41bd6b^^^CI ((aa5 p).take 8) 8,0x5be0cd19137e2179^^^CI (((aa5 p).drop 8).take 8) 8]
def ah3 (_:atE):Bool:=true
def OJ (x:atE):OT Lc.Y:=.br (oR x.1.1 x.1.2.1) (.ok ⟨Lb,(((),(30:Int),()),())⟩)
 (.ok ⟨adV,(((),(0:Int),()),anw x.1.2.1 (avn x.1.1 x.1.2.1) 0,[],())⟩)
theorem aEJ:aa aj 108 (Lc.az ah3 OJ):=atD _ _ λx oy _ ho=>by
 rw [<-ho]
 obtain ⟨⟨p,n,⟨⟩⟩,⟨⟩⟩:=x
 clear ho
 by_cases h1:16<(p.length:Int)
 ·have e1:decide (16<(p.length:Int))=true:=ag h1
  have eb:oR p n=true:=by simp only [oR,e1,Bool.true_or]
  simp only [OJ,OI,e1,eb]
  rfl
 ·have e1:decide (16<(p.length:Int))=false:=bq h1
  by_cases h2:n<1
  ·have e2:decide (n<1)=true:=ag h2
   have eb:oR p n=true:=by simp only [oR,e1,e2,Bool.true_or,Bool.false_or]
   simp only [OJ,OI,e1,e2,eb]
   rfl
  ·have e2:decide (n<1)=false:=bq h2
   by_cases h3:64<n
   ·have e3:decide (64<n)=true:=ag h3
    have eb:oR p n=true:=by simp only [oR,e1,e2,e3,Bool.false_or]
    simp only [OJ,OI,e1,e2,e3,eb]
    rfl
   ·have e3:decide (64<n)=false:=bq h3
    have eb:oR p n=false:=by simp only [oR,e1,e2,e3,Bool.false_or]
    have hl:=Vd (p:=p) (by omega)
    have hp:p.take 16++List.drop p.length [(0:UInt8),0,0,0,0,0,0,0,0,0,0,0,0,0,0,0]=aa5 p:=rfl
    have l1:((aa5 p).take 8).length=8:=by simp only [bQ,hl];omega
    have l2:(((aa5 p).drop 8).take 8).length=8:=by simp only [bQ,cq,hl];omega
    simp only [OJ,OI,e1,e2,e3,eb,hp,List.drop_zero,l1,l2]
    refine (ae ?_).trans rfl
    simp only [mN,hl,l1,l2]
    decide
def La:bx:=(Lc.az ah3 OJ)
theorem ank:aa aj 108 La:=aEJ
theorem anj:ax La:=av
def aBZ:Env:=aq 108 La ajx
theorem Ta:bU aj te aBZ:=aU follows Pp ank anj
def aHE (w:Sh):CSh:=.cells [.val false .int,.val false .u64,.val false .u64,.val false .u64,.val false .u64,.val false .u64,.val false .u64,.val false .u64,.val false .u64,w,.val false .u64]
def qO:af:=⟨[eT,iS],[(0,aHE kg),nQ],true,1,true⟩
def XU:Shape:=⟨61,[Aa],[(0,aHE iS),(1,.gone)],2,true⟩
def qN:Shape:=XU
abbrev K0:Type:=(Unit×dp)×OV×dp
abbrev fx:Type:=b8×aur×b8
abbrev ud:Type:=b8×aur×b8
def atp (c0_0:Int) (c0_1:UInt64) (c0_2:UInt64) (c0_3:UInt64) (c0_4:UInt64) (c0_5:UInt64) (c0_6:UInt64) (c0_7:UInt64) (c0_8:UInt64) (c0_9:aH) (c0_10:UInt64):OT (Sum fx aZ):=
 let z0:Nat:=List.length c0_9
 let z1:Int:=(↑z0:Int)
 let z2:aH:=List.drop 0 (List.take 128 c0_9)
 let z3:Nat:=List.length z2
 let z4:ap:=Ek [c0_1,c0_2,c0_3,c0_4,c0_5,c0_6,c0_7,c0_8] (tab z2 128 (0:UInt8)) (c0_10+(128:UInt64)) false
 (.br (decide ((128:Int)<z1))
 (gd [cm (0:Int) (128:Int) z0,decide (128<=z3),decide (128<=z3),cm (128:Int) z1 z0] (.ok (.inl (((),()),(c0_0,List.getD z4 0 0,List.getD z4 1 0,List.getD z4 2 0,List.getD z4 3 0,List.getD z4 4 0,List.getD z4 5 0,List.getD z4 6 0,List.getD z4 7 0,List.drop 128 c0_9,c0_10+(128:UInt64),()),(),()))))
 (.ok (.inr ⟨(.exit 0,qN),(((),()),(c0_0,c0_1,c0_2,c0_3,c0_4,c0_5,c0_6,c0_7,c0_8,c0_9,c0_10,()),(),())⟩)))
def B5 (s:fx):OT (Sum fx aZ):=atp s.2.1.1 s.2.1.2.1 s.2.1.2.2.1 s.2.1.2.2.2.1 s.2.1.2.2.2.2.1 s.2.1.2.2.2.2.2.1 s.2.1.2.2.2.2.2.2.1 s.2.1.2.2.2.2.2.2.2.1 s.2.1.2.2.2.2.2.2.2.2.1 s.2.1.2.2.2.2.2.2.2.2.2.1 s.2.1.2.2.2.2.2.2.2.2.2.2.1
def XX (g0_0:fx->ud) (s:fx):OT aZ:=(.ok ⟨(.exit 0,qN),g0_0 s⟩)
def KZ:aL:=⟨[],[YK,nQ],false⟩
section
variable (ok0:fx->Bool) (g0_0:fx->ud)
def ahQ (a1:aH) (c0_0:Int) (c0_1:UInt64) (c0_2:UInt64) (c0_3:UInt64) (c0_4:UInt64) (c0_5:UInt64) (c0_6:UInt64) (c0_7:UInt64) (c0_8:UInt64) (c0_10:UInt64) (c1:aH):OT qO.Y:=
 let z0:fx:=(((),()),(c0_0,c0_1,c0_2,c0_3,c0_4,c0_5,c0_6,c0_7,c0_8,c1++a1,c0_10,()),(),())
 let z1:=(g0_0 z0).snd.fst
 let z2:=z1.snd
 let z3:=z2.snd
 let z4:=z3.snd
 let z5:=z4.snd
 let z6:=z5.snd
 let z7:=z6.snd
 let z8:=z7.snd
 let z9:=z8.snd
 let z10:=z9.snd
 let z11:=z10.fst
 (gd [decide ((List.length c1+List.length a1)*1<=140737488355328),ok0 z0,eH ((z11,()),())] (.ok ⟨KZ,((),(z1.fst,z2.fst,z3.fst,z4.fst,z5.fst,z6.fst,z7.fst,z8.fst,z9.fst,(),z10.snd.fst,()),z11,())⟩))
theorem adG (h0:bh B5 ok0 (XX g0_0)) (pre:K0->Bool) (F:K0->OT qO.Y) (hF:∀ (x:K0) oy,pre x=true->(F x).run=some oy->(ahQ ok0 g0_0 x.1.2.1 x.2.1.1 x.2.1.2.1 x.2.1.2.2.1 x.2.1.2.2.2.1 x.2.1.2.2.2.2.1 x.2.1.2.2.2.2.2.1 x.2.1.2.2.2.2.2.2.1 x.2.1.2.2.2.2.2.2.2.1 x.2.1.2.2.2.2.2.2.2.2.1 x.2.1.2.2.2.2.2.2.2.2.2.2.1 x.2.2.1).run=some oy):aa aj 161 (qO.az pre F):=
 dh Ta 161 Tryz.f161 qO [KZ] (kZ Ta 0 XU [(0,qN)] none none B5 bE h0 bE) (λx=>ahQ ok0 g0_0 x.1.2.1 x.2.1.1 x.2.1.2.1 x.2.1.2.2.1 x.2.1.2.2.2.1 x.2.1.2.2.2.2.1 x.2.1.2.2.2.2.2.1 x.2.1.2.2.2.2.2.2.1 x.2.1.2.2.2.2.2.2.2.1 x.2.1.2.2.2.2.2.2.2.2.1 x.2.1.2.2.2.2.2.2.2.2.2.2.1 x.2.2.1) hF
end
def aAP (s:lu):lu:=(Ek s.1 (s.2.2.take 128) (s.2.1+128) false,s.2.1+128,s.2.2.drop 128)
def Ol (s:lu):lu:=upto (λ_ s=>aAP s) s ((s.2.2.length-1)/128)
abbrev aGI:Type:=aur
def aEl (n:Int) (s:lu):aGI:=(n,s.1.getD 0 0,s.1.getD 1 0,s.1.getD 2 0,s.1.getD 3 0,s.1.getD 4 0,s.1.getD 5 0,s.1.getD 6 0,s.1.getD 7 0,s.2.2,s.2.1,())
def aFL (x:aGI):lu:=([x.2.1,x.2.2.1,x.2.2.2.1,x.2.2.2.2.1,x.2.2.2.2.2.1,x.2.2.2.2.2.2.1,x.2.2.2.2.2.2.2.1,x.2.2.2.2.2.2.2.2.1],x.2.2.2.2.2.2.2.2.2.2.1,x.2.2.2.2.2.2.2.2.2.1)
theorem tW {h:List UInt64} {b:List UInt8} {c:UInt64} {l:Bool} (hh:h.length=8):(Ek h b c l).length=8:=by unfold Ek;rw [Bh];exact hh
def OD (_:fx):Bool:=true
def XW (s:fx):ud:=(((),()),aEl s.2.1.1 (Ol (aFL s.2.1)),(),())
theorem ato:bh B5 OD (XX XW):=by
 rintro ⟨⟨⟨⟩,⟨⟩⟩,⟨⟨n,h0,h1,h2,h3,h4,h5,h6,h7,w,c,⟨⟩⟩,⟨⟩,⟨⟩⟩⟩ _
 have:=(bf (T:=B5) (λ_ s=>((((),()),aEl n s,(),()):fx)) (λ_ s=>aAP s) (λs=>(⟨(.exit 0,qN),(((),()),aEl n s,(),())⟩:aZ)) ((w.length-1)/128) ([h0,h1,h2,h3,h4,h5,h6,h7],c,w)
  (λk s=>s.1.length=8/\s.2.2.length+128*k=w.length) ⟨rfl,by simp⟩ (λk s hk hs=>⟨?_,?_⟩) (λs hs=> ?_)).1
 ·obtain ⟨m,hm⟩:=this
  exact ⟨m,_,hm,rfl⟩
 ·obtain ⟨h,c,v⟩:=s
  obtain ⟨a1,a2⟩:=hs
  dsimp only at a1 a2
  have hv:128<v.length:=by omega
  have t1: [h.getD 0 0,h.getD 1 0,h.getD 2 0,h.getD 3 0,h.getD 4 0,h.getD 5 0,h.getD 6 0,h.getD 7 0]=h:=(rfl:_=tab h 8 0).trans (AE a1)
  have t2:tab (v.take 128) 128 0=v.take 128:=AE (by simp;omega)
  have t3:(v.take 128).length=128:=by simp;omega
  refine (OT.ak (ag (by dsimp only [aEl];omega))).trans ((ae ?_).trans ?_)
  ·simp only [aEl,List.drop_zero,t3,aA,aI,aJ,aw]
   exact ⟨cF (by omega),rfl,rfl,cF (by omega)⟩
  ·simp only [OT.jb,aEl,List.drop_zero,t1,t2]
   rfl
 ·obtain ⟨h,c,v⟩:=s
  obtain ⟨a1,a2⟩:=hs
  dsimp only at a1 a2
  refine ⟨tW a1,?_⟩
  simp only [aAP,cq]
  omega
 ·obtain ⟨h,c,v⟩:=s
  obtain ⟨a1,a2⟩:=hs
  dsimp only at a1 a2
  exact OT.au (bq (by dsimp only [aEl];omega))
def A6 (x:aHV) (w:aH):lu:=([x.2.1,x.2.2.1,x.2.2.2.1,x.2.2.2.2.1,x.2.2.2.2.2.1,x.2.2.2.2.2.2.1,x.2.2.2.2.2.2.2.1,x.2.2.2.2.2.2.2.2.1],x.2.2.2.2.2.2.2.2.2.2.1,w)
def wI (s:lu) (b:aH):lu:=Ol (s.1,s.2.1,s.2.2++b)
theorem ahu (s:lu):∀ k,(upto (λ_ s=>aAP s) s k).2.2.length<=s.2.2.length
 |0=>Nat.le_refl _
 |k+1=>by
  have:=ahu s k
  show (List.drop 128 (upto (λ_ s=>aAP s) s k).2.2).length<=_
  rw [cq]
  omega
theorem Nv {n:Int} {h:List UInt64} {c:UInt64} {w:List UInt8} (hh:h.length=8):A6 (anw n h c) w=(h,c,w):=by
 have: [h.getD 0 0,h.getD 1 0,h.getD 2 0,h.getD 3 0,h.getD 4 0,h.getD 5 0,h.getD 6 0,h.getD 7 0]=h:=(rfl:_=tab h 8 0).trans (AE hh)
 simp only [A6,anw,this]
theorem aGc (s:lu) (hs:s.1.length=8):∀ k,(upto (λ_ s=>aAP s) s k).1.length=8
 |0=>hs
 |k+1=>tW (aGc s hs k)
theorem asE (s:lu):∀ k,(upto (λ_ s=>aAP s) s k).2.2.length=s.2.2.length-128*k
 |0=>rfl
 |k+1=>by
  have:=asE s k
  show (List.drop 128 (upto (λ_ s=>aAP s) s k).2.2).length=_
  rw [cq,this]
  omega
theorem ayJ (s:lu) (hs:s.1.length=8):(Ol s).1.length=8:=aGc s hs _
theorem amJ (s:lu):(Ol s).2.2.length<=128:=by
 unfold Ol
 rw [asE]
 omega
def Es (x:K0):Bool:=decide (x.2.2.1.length+x.1.2.1.length<=140737488355328)
def ahR (x:K0):OT qO.Y:=.ok ⟨KZ,((),anw x.2.1.1 (wI (A6 x.2.1 x.2.2.1) x.1.2.1).1 (wI (A6 x.2.1 x.2.2.1) x.1.2.1).2.1,(wI (A6 x.2.1 x.2.2.1) x.1.2.1).2.2,())⟩
theorem atn:aa aj 161 (qO.az Es ahR):=adG OD XW ato _ _ λx oy hp ho=>by
 rw [<-ho]
 clear ho
 obtain ⟨⟨⟨⟩,b,⟨⟩⟩,⟨⟨n,h0,h1,h2,h3,h4,h5,h6,h7,⟨⟩,c,⟨⟩⟩,w,⟨⟩⟩⟩:=x
 have hp':=bn hp
 dsimp only at hp'
 refine (ae ?_).trans rfl
 simp only [aA,aI,aJ,aw]
 refine ⟨ag (by omega),rfl,ag ?_⟩
 have:=ahu ([h0,h1,h2,h3,h4,h5,h6,h7],c,w++b) (((w++b).length-1)/128)
 show (Ol ([h0,h1,h2,h3,h4,h5,h6,h7],c,w++b)).2.2.length<=_
 refine cT this ?_
 show (w++b).length<=_
 rw [bK]
 exact hp'
def zF:bx:=(qO.az Es ahR)
theorem XV:aa aj 161 zF:=atn
theorem XT:ax zF:=av
def ajn:Env:=aq 161 zF aBZ
theorem EO:bU aj te ajn:=aU follows Ta XV XT
def K3:af:=⟨o0,[(0,aHE kg),nQ],false,2,true⟩
abbrev atv:Type:=b8×OV×dp
def aEE:Shape:=⟨51,[FN,(6,.own 3),(33,aD),(34,aD)],[YK,nQ,lx,(3,jQ)],2,true⟩
abbrev jE:Type:=ry×OV×aH×ap×dp
def B7:Shape:=⟨51,[(6,.own 2)],[YK,nQ,zX],2,true⟩
abbrev Ev:Type:=b8×OV×aH×dp
def aEH (a33:Int) (a34:Int) (c0_0:Int) (c0_1:UInt64) (c0_2:UInt64) (c0_3:UInt64) (c0_4:UInt64) (c0_5:UInt64) (c0_6:UInt64) (c0_7:UInt64) (c0_8:UInt64) (c0_10:UInt64) (c1:aH) (c2:ap) (c3:aH):OT (Sum jE aZ):=
 let z0:Int:=Int.tdiv a34 (8:Int)
 let z1:Int:=(8:Int)*Int.tmod a34 (8:Int)
 let z2:Nat:=List.length c3
 let z3:Nat:=Int.toNat a34
 (.br (decide (a34<a33))
 (gd [true&&inR z0,inB z0 8,decide (Int.toNat z0+0<List.length c2),inR z1,decide ((0:Int)<=z1),inB a34 z2,decide (z3<z2),inR (a34+(1:Int))] (.ok (.inl (((),(),a33,a34+(1:Int),()),(c0_0,c0_1,c0_2,c0_3,c0_4,c0_5,c0_6,c0_7,c0_8,(),c0_10,()),c1,c2,List.set c3 z3 (UInt64.toUInt8 (bC (List.getD c2 (Int.toNat z0+0) (0:UInt64)) z1)),()))))
 (.ok (.inr ⟨(.exit 0,B7),(((),()),(c0_0,c0_1,c0_2,c0_3,c0_4,c0_5,c0_6,c0_7,c0_8,(),c0_10,()),c1,c3,())⟩)))
def SB (s:jE):OT (Sum jE aZ):=aEH s.1.2.2.1 s.1.2.2.2.1 s.2.1.1 s.2.1.2.1 s.2.1.2.2.1 s.2.1.2.2.2.1 s.2.1.2.2.2.2.1 s.2.1.2.2.2.2.2.1 s.2.1.2.2.2.2.2.2.1 s.2.1.2.2.2.2.2.2.2.1 s.2.1.2.2.2.2.2.2.2.2.1 s.2.1.2.2.2.2.2.2.2.2.2.2.1 s.2.2.1 s.2.2.2.1 s.2.2.2.2.1
def atu (g0_0:jE->Ev) (s:jE):OT aZ:=(.ok ⟨(.exit 0,B7),g0_0 s⟩)
def adQ:aL:=⟨[.own 2],[YK,nQ,zX],false⟩
section
variable (ok0:jE->Bool) (g0_0:jE->Ev)
def aA0 (c0_0:Int) (c0_1:UInt64) (c0_2:UInt64) (c0_3:UInt64) (c0_4:UInt64) (c0_5:UInt64) (c0_6:UInt64) (c0_7:UInt64) (c0_8:UInt64) (c0_10:UInt64) (c1:aH):OT K3.Y:=
 let z0:Nat:=List.length c1
 let z1:aH:=List.take 128 c1++List.drop z0 (List.replicate 128 (0:UInt8))
 let z2:aH:=List.replicate (Int.toNat c0_0) (0:UInt8)
 let z3:ap:=Ek [c0_1,c0_2,c0_3,c0_4,c0_5,c0_6,c0_7,c0_8] (tab z1 128 (0:UInt8)) (c0_10+i2u (↑(min z0 128):Int)) true
 let z4:jE:=(((),(),(↑(List.length z2):Int),(0:Int),()),(c0_0,c0_1,c0_2,c0_3,c0_4,c0_5,c0_6,c0_7,c0_8,(),c0_10,()),c1,[List.getD z3 0 0,List.getD z3 1 0,List.getD z3 2 0,List.getD z3 3 0,List.getD z3 4 0,List.getD z3 5 0,List.getD z3 6 0,List.getD z3 7 0],z2,())
 let z5:=(g0_0 z4).snd
 let z6:=z5.fst
 let z7:=z6.snd
 let z8:=z7.snd
 let z9:=z8.snd
 let z10:=z9.snd
 let z11:=z10.snd
 let z12:=z11.snd
 let z13:=z12.snd
 let z14:=z13.snd
 let z15:=z5.snd
 (gd [decide (128<=List.length z1),decide ((0:Int)<=c0_0)&&decide (c0_0<=c0_0)&&decide (c0_0*(1:Int)<=(140737488355328:Int))&&decide (c0_0<=(140737488355328:Int)),ok0 z4] (.ok ⟨adQ,(((),()),(z6.fst,z7.fst,z8.fst,z9.fst,z10.fst,z11.fst,z12.fst,z13.fst,z14.fst,(),z14.snd.snd.fst,()),z15.fst,z15.snd.fst,())⟩))
theorem att (h0:bh SB ok0 (atu g0_0)) (pre:atv->Bool) (F:atv->OT K3.Y) (hF:∀ (x:atv) oy,pre x=true->(F x).run=some oy->(aA0 ok0 g0_0 x.2.1.1 x.2.1.2.1 x.2.1.2.2.1 x.2.1.2.2.2.1 x.2.1.2.2.2.2.1 x.2.1.2.2.2.2.2.1 x.2.1.2.2.2.2.2.2.1 x.2.1.2.2.2.2.2.2.2.1 x.2.1.2.2.2.2.2.2.2.2.1 x.2.1.2.2.2.2.2.2.2.2.2.2.1 x.2.2.1).run=some oy):aa aj 162 (K3.az pre F):=
 dh EO 162 Tryz.f162 K3 [adQ] (kZ EO 0 aEE [(0,B7)] none none SB bE h0 bE) (λx=>aA0 ok0 g0_0 x.2.1.1 x.2.1.2.1 x.2.1.2.2.1 x.2.1.2.2.2.1 x.2.1.2.2.2.2.1 x.2.1.2.2.2.2.2.1 x.2.1.2.2.2.2.2.2.1 x.2.1.2.2.2.2.2.2.2.1 x.2.1.2.2.2.2.2.2.2.2.1 x.2.1.2.2.2.2.2.2.2.2.2.2.1 x.2.2.1) hF
end
def afD (h:ap) (n:Nat):aH:=upto (λk o=>o.set k (UInt64.toUInt8 (bC (h.getD (k/8) 0) (8*((k%8:Nat):Int))))) (List.replicate n 0) n
def SA (s:jE):Bool:=decide (s.1.2.2.2.1=0/\s.2.2.2.1.length=8/\s.1.2.2.1<=64/\0<=s.1.2.2.1/\s.2.2.2.2.1=List.replicate s.1.2.2.1.toNat 0)
def adR (s:jE):Ev:=(((),()),s.2.1,s.2.2.1,afD s.2.2.2.1 s.1.2.2.1.toNat,())
theorem aEG:bh SB SA (atu adR):=by
 rintro ⟨⟨⟨⟩,⟨⟩,n,i,⟨⟩⟩,⟨d,w,h,o,⟨⟩⟩⟩ hh
 have h':=bn hh
 dsimp only at h'
 obtain ⟨rfl,hl,hn,hn0,rfl⟩:=h'
 obtain ⟨k,rfl⟩:∃ k:Nat,n=(k:Int):=⟨n.toNat,by omega⟩
 have:=(bf (T:=SB) (λi o=>((((),(),(k:Int),(i:Int),()),d,w,h,o,()):jE)) (λk o=>o.set k (UInt64.toUInt8 (bC (h.getD (k/8) 0) (8*((k%8:Nat):Int)))))
  (λo=>(⟨(.exit 0,B7),(((),()),d,w,o,())⟩:aZ)) k (List.replicate k 0) (λ_ o=>o.length=k) (by simp) (λi o hi ho=>⟨?_,by rw [cy];exact ho⟩) (λo ho=> ?_)).1
 ·obtain ⟨m,hm⟩:=this
  exact ⟨m,_,hm,rfl⟩
 ·have t1:Int.tdiv (i:Int) 8=((i/8:Nat):Int):=by rw [Int.tdiv_eq_ediv_of_nonneg (by omega)];omega
  have t2:Int.tmod (i:Int) 8=((i%8:Nat):Int):=by rw [Int.tmod_eq_emod_of_nonneg (by omega)];omega
  refine (OT.ak (ag (by dsimp only;omega))).trans ((ae ?_).trans ?_)
  ·simp only [t1,t2,hl,ho,cB,aA,aI,aJ,aw]
   exact ⟨⟨trivial,aS (by omega)⟩,ba (by omega),ag (by omega),aS (by omega),ag (by omega),ba (by omega),ag (by omega),aS (by omega)⟩
  ·simp only [OT.jb,t1,t2,cB,Nat.add_zero]
   rfl
 ·exact OT.au (bq (by dsimp only;omega))
def A3 (w:aH):aH:=w.take 128++(List.replicate 128 (0:UInt8)).drop w.length
theorem A2 {w:List UInt8} (h:w.length<=128):(A3 w).length=128:=by
 simp only [A3,bK,bQ,cq,fW]
 omega
def aGN (n:Int) (s:lu):aH:=afD (Ek s.1 (A3 s.2.2) (s.2.1+i2u (s.2.2.length:Int)) true) n.toNat
theorem adP {n:Int} {d:aHV} {w:List UInt8} {h:List UInt64} (hh:h.length=8) (hn0:0<=n) (hn:n<=64):SA (((),(),n,0,()),d,w,h,List.replicate n.toNat 0,())=true:=ag ⟨rfl,hh,hn,hn0,rfl⟩
def SI (p:aH) (n:Int) (b:aH):aH:=aGN n (wI (avn p n,0,[]) b)
def Sz (x:atv):Bool:=decide (0<=x.2.1.1/\x.2.1.1<=64/\x.2.2.1.length<=128)
def aA1 (x:atv):OT K3.Y:=.ok ⟨adQ,(((),()),x.2.1,x.2.2.1,aGN x.2.1.1 (A6 x.2.1 x.2.2.1),())⟩
theorem aEF:aa aj 162 (K3.az Sz aA1):=att SA adR aEG _ _ λx oy hp ho=>by
 rw [<-ho]
 clear ho
 obtain ⟨⟨⟨⟩,⟨⟩⟩,⟨⟨n,h0,h1,h2,h3,h4,h5,h6,h7,⟨⟩,c,⟨⟩⟩,w,⟨⟩⟩⟩:=x
 have hp':=bn hp
 dsimp only at hp'
 obtain ⟨hn0,hn,hw⟩:=hp'
 have t1:w.take 128++List.drop w.length (List.replicate 128 (0:UInt8))=A3 w:=rfl
 have t2:tab (A3 w) 128 0=A3 w:=AE (A2 hw)
 have t3:min w.length 128=w.length:=by omega
 have hc:∀ c,(Ek [h0,h1,h2,h3,h4,h5,h6,h7] (A3 w) c true).length=8:=λc=>tW rfl
 have t4:∀ c,tab (Ek [h0,h1,h2,h3,h4,h5,h6,h7] (A3 w) c true) 8 0=Ek [h0,h1,h2,h3,h4,h5,h6,h7] (A3 w) c true:=λc=>AE (hc c)
 have t5:((List.replicate n.toNat (0:UInt8)).length:Int)=n:=by simp;omega
 refine (ae ?_).trans ?_
 ·simp only [t1,t2,t3,t4,t5,A2 hw,aA,aI,aJ,aw]
  exact ⟨rfl,⟨⟨⟨ag hn0,ag (Int.le_refl _)⟩,ag (by omega)⟩,ag (by omega)⟩,adP (hc _) hn0 hn⟩
 ·simp only [t1,t2,t3,t4,t5,adR]
  rfl
def K2:bx:=(K3.az Sz aA1)
theorem anf:aa aj 162 K2:=aEF
theorem ane:ax K2:=av
def aBX:Env:=aq 162 K2 ajn
theorem ajo:bU aj te aBX:=aU follows EO anf ane
def ue:af:=⟨[YG,aD,iS],[],true,0,false⟩
abbrev X3:Type:=(aH×Int×dp)×Unit
def vZ:aL:=⟨[.own 0,aD],Ad,false⟩
def ats (a0:aH) (a1:Int) (a2:aH):OT ue.Y:=
 let z0:ait:=anw a1 (avn a0 a1) (0:UInt64)
 let z1:=z0.fst
 let z2:=z0.snd
 let z3:=z2.snd
 let z4:=z3.snd
 let z5:=z4.snd
 let z6:=z5.snd
 let z7:=z6.snd
 let z8:=z7.snd
 let z9:=z8.snd
 let z10:ait:=(z1,z2.fst,z3.fst,z4.fst,z5.fst,z6.fst,z7.fst,z8.fst,z9.fst,(),z9.snd.snd.fst,())
 let z11:lu:=wI (A6 z10 []) a2
 let z12:=z11.snd
 let z13:ait:=anw z1 z11.fst z12.fst
 let z14:=z13.fst
 let z15:=z13.snd
 let z16:=z15.snd
 let z17:=z16.snd
 let z18:=z17.snd
 let z19:=z18.snd
 let z20:=z19.snd
 let z21:=z20.snd
 let z22:=z21.snd
 let z23:ait:=(z14,z15.fst,z16.fst,z17.fst,z18.fst,z19.fst,z20.fst,z21.fst,z22.fst,(),z22.snd.snd.fst,())
 let z24:=z12.snd
 (.br (oR a0 a1)
 (.ok ⟨vZ,(((),(30:Int),()),[],())⟩)
 (gd [Es (((),a2,()),z10,[],()),Sz (((),()),z23,z24,())] (.ok ⟨vZ,(((),(0:Int),()),aGN z14 (A6 z23 z24),())⟩)))
theorem anc (pre:X3->Bool) (F:X3->OT ue.Y) (hF:∀ (x:X3) oy,pre x=true->(F x).run=some oy->(ats x.1.1 x.1.2.1 x.1.2.2.1).run=some oy):aa aj 132 (ue.az pre F):=
 dh ajo 132 Tryz.f132 ue [vZ] bE (λx=>ats x.1.1 x.1.2.1 x.1.2.2.1) hF
def B6 (x:X3):Bool:=decide (x.1.2.2.1.length<=140737488355328)
def Sy (x:X3):OT ue.Y:=.br (oR x.1.1 x.1.2.1) (.ok ⟨vZ,(((),(30:Int),()),[],())⟩) (.ok ⟨vZ,(((),(0:Int),()),SI x.1.1 x.1.2.1 x.1.2.2.1,())⟩)
theorem ay7:aa aj 132 (ue.az B6 Sy):=anc _ _ λx oy hp ho=>by
 rw [<-ho]
 clear ho
 obtain ⟨⟨p,n,b,⟨⟩⟩,⟨⟩⟩:=x
 have hp':=bn hp
 dsimp only at hp'
 cases hk:oR p n
 ·refine (OT.au hk).trans ?_
  have e1:A6 (anw n (avn p n) 0) []=(avn p n,0,[]):=Nv rfl
  have e2:∀ c w,A6 (anw n (wI (avn p n,0,[]) b).1 c) w=((wI (avn p n,0,[]) b).1,c,w):=λc w=>Nv (ayJ _ rfl)
  have hn:0<=n/\n<=64:=by
   simp only [oR,Bool.or_eq_false_iff,decide_eq_false_iff_not] at hk
   omega
  refine (ae ?_).trans ?_
  ·simp only [aA,aI,aJ,aw]
   refine ⟨ag (by simp only [List.length_nil];omega),ag ⟨hn.1,hn.2,?_⟩⟩
   exact amJ _
  ·have key:aGN n (A6 (anw n (wI (A6 (anw n (avn p n) 0) []) b).1 (wI (A6 (anw n (avn p n) 0) []) b).2.1) (wI (A6 (anw n (avn p n) 0) []) b).2.2)=SI p n b:=by
    rw [e1,e2]
    rfl
   simp only [Sy,hk]
   exact congrArg (λl=>some (⟨vZ,(((),(0:Int),()),l,())⟩:ue.Y)) key
 ·refine (OT.ak hk).trans ?_
  simp only [Sy,hk]
  rfl
def Eu:bx:=(ue.az B6 Sy)
theorem adO:aa aj 132 Eu:=ay7
theorem adN:ax Eu:=av
def avj:Env:=aq 132 Eu aBX
theorem avi:bU aj te avj:=aU follows ajo adO adN
def Sx.ab.nat (e:ab):Nat:=e.w0.toNat+18446744073709551616*(e.w1.toNat+18446744073709551616*(e.w2.toNat+18446744073709551616*e.w3.toNat))
def ofN (n:Nat):ab:=⟨UInt64.ofNat n,UInt64.ofNat (n/18446744073709551616),UInt64.ofNat (n/18446744073709551616/18446744073709551616),UInt64.ofNat (n/18446744073709551616/18446744073709551616/18446744073709551616)⟩
def zU (x y c:UInt64):UInt64:=UInt64.ofNat ((x.toNat+y.toNat+c.toNat)%18446744073709551616)
def Gc (x y c:UInt64):UInt64:=UInt64.ofNat ((x.toNat+y.toNat+c.toNat)/18446744073709551616)
def rF (x y c:UInt64):UInt64:=UInt64.ofNat ((x.toNat+18446744073709551616-y.toNat-c.toNat)%18446744073709551616)
def aah (x y c:UInt64):UInt64:=UInt64.ofNat (if x.toNat<y.toNat+c.toNat then 1 else 0)
def avo (x y:UInt64):UInt64:=UInt64.ofNat (x.toNat*y.toNat/18446744073709551616)
theorem iy (x:UInt64) (k:Nat) (hk:k<64):(bC x (k:Int)).toNat=x.toNat/2^k:=by
 unfold bC
 rw [if_pos (by omega),UInt64.toNat_shiftRight,dv,cB,Nat.shiftRight_eq_div_pow]
 congr 2
 omega
theorem sa (x:UInt64) (k:Nat) (hk:k<64):(cC x (k:Int)).toNat=x.toNat*2^k%2^64:=by
 unfold cC
 rw [if_pos (by omega),UInt64.toNat_shiftLeft,dv,cB,Nat.shiftLeft_eq]
 congr 3
 omega
theorem me (x:UInt64):(x&&&4294967295).toNat=x.toNat%4294967296:=by
 rw [UInt64.toNat_and]
 exact Nat.and_two_pow_sub_one_eq_mod x.toNat 32
theorem aFQ (a b:UInt64):bC a 32*bC b 32+bC (bC a 32*(b&&&4294967295)+bC ((a&&&4294967295)*(b&&&4294967295)) 32) 32+
 bC (((bC a 32*(b&&&4294967295)+bC ((a&&&4294967295)*(b&&&4294967295)) 32)&&&4294967295)+(a&&&4294967295)*bC b 32) 32=avo a b:=by
 have ha:=a.toNat_lt
 have hb:=b.toNat_lt
 obtain ⟨h1,h2,h3,h4⟩:=Lib.mul64_hi a.toNat b.toNat ha hb
 have s32:∀ x:UInt64,(bC x 32).toNat=x.toNat/4294967296:=λx=>iy x 32 (by omega)
 have hx:=Lib.half_mul_le (a:=a.toNat/4294967296) (b:=b.toNat/4294967296) (by omega) (by omega)
 have hy:=Lib.half_mul_le (a:=a.toNat/4294967296) (b:=b.toNat%4294967296) (by omega) (by omega)
 have hz:=Lib.half_mul_le (a:=a.toNat%4294967296) (b:=b.toNat/4294967296) (by omega) (by omega)
 have e0:((a&&&4294967295)*(b&&&4294967295)).toNat=a.toNat%4294967296*(b.toNat%4294967296):=by
  rw [UInt64.toNat_mul,me,me,bm h1]
 have e1:(bC a 32*(b&&&4294967295)+bC ((a&&&4294967295)*(b&&&4294967295)) 32).toNat=a.toNat/4294967296*(b.toNat%4294967296)+a.toNat%4294967296*(b.toNat%4294967296)/4294967296:=by
  rw [UInt64.toNat_add,UInt64.toNat_mul,s32,s32,me,e0,bm (a:=a.toNat/4294967296*(b.toNat%4294967296)) (by omega),bm h2]
 have e2:(((bC a 32*(b&&&4294967295)+bC ((a&&&4294967295)*(b&&&4294967295)) 32)&&&4294967295)+(a&&&4294967295)*bC b 32).toNat=
  (a.toNat/4294967296*(b.toNat%4294967296)+a.toNat%4294967296*(b.toNat%4294967296)/4294967296)%4294967296+a.toNat%4294967296*(b.toNat/4294967296):=by
  rw [UInt64.toNat_add,UInt64.toNat_mul,me,me,s32,e1,bm (a:=a.toNat%4294967296*(b.toNat/4294967296)) (by omega),bm h3]
 have hq:a.toNat*b.toNat/18446744073709551616<18446744073709551616:=by
  rw [Nat.div_lt_iff_lt_mul (by omega)]
  exact Nat.mul_lt_mul'' ha hb
 rw [<-rB,UInt64.toNat_add,UInt64.toNat_add,UInt64.toNat_mul,s32,s32,s32,s32,e1,e2]
 have e3:(avo a b).toNat=a.toNat*b.toNat/18446744073709551616:=by
  unfold avo
  rw [dv,bm hq]
 rw [e3,<-h4]
 rw [<-h4] at hq
 omega
def aE7 (h l y:UInt64):UInt64:=UInt64.ofNat ((h.toNat*18446744073709551616+l.toNat)/y.toNat)
def adn (h l y:UInt64):UInt64:=UInt64.ofNat ((h.toNat*18446744073709551616+l.toNat)%y.toNat)
theorem ayL {m A B N:Nat} (hm:0<m) (e:N=A+m*B):N/m=B+A/m/\N%m=A%m:=by
 subst e
 exact ⟨by rw [Nat.add_mul_div_left _ _ hm,Nat.add_comm],Nat.add_mul_mod_self_left ..⟩
theorem Sb {m N u t q r K L:Nat} (hm:0<m) (hL:0<L) (hu:N=u*K+t) (hq:u=q*(m*L)+r):
 N/m=q*(L*K)+((r*K+t)*L)/(m*L)/\N%m=((r*K+t)*L)%(m*L)/L:=by
 have e:N=(r*K+t)+m*(q*(L*K)):=by
  have h1:q*(m*L)*K=m*(q*(L*K)):=by
   rw [Nat.mul_assoc q,Nat.mul_assoc m,Nat.mul_left_comm m q]
  rw [hu,hq,Nat.add_mul,h1]
  omega
 obtain ⟨h1,h2⟩:=ayL hm e
 rw [h1,h2,Nat.mul_div_mul_right _ _ hL,Nat.mul_mod_mul_right,Nat.mul_div_cancel _ hL]
 exact ⟨rfl,rfl⟩
theorem mS (x y c:UInt64):x.toNat+y.toNat+c.toNat=(zU x y c).toNat+18446744073709551616*(Gc x y c).toNat:=by
 have hx:=x.toNat_lt
 have hy:=y.toNat_lt
 have hc:=c.toNat_lt
 unfold zU Gc
 rw [dv,dv,bm (b:=2^64) (by omega),bm (b:=2^64) (by omega)]
 omega
theorem Lz {x y c:UInt64} (hc:c.toNat<=1):(Gc x y c).toNat<=1:=by
 have hx:=x.toNat_lt
 have hy:=y.toNat_lt
 unfold Gc
 rw [dv,bm (by omega)]
 omega
theorem afE (x y c:UInt64):(aah x y c).toNat=if x.toNat<y.toNat+c.toNat then 1 else 0:=by
 unfold aah
 rw [dv]
 split<;>rfl
theorem HU {x y c:UInt64}:(aah x y c).toNat<=1:=by
 rw [afE]
 split<;>omega
theorem AH {x y c:UInt64} (hc:c.toNat<=1):x.toNat+18446744073709551616*(aah x y c).toNat=(rF x y c).toNat+y.toNat+c.toNat:=by
 have hx:=x.toNat_lt
 have hy:=y.toNat_lt
 rw [afE]
 unfold rF
 rw [dv,bm (b:=2^64) (by omega)]
 split<;>omega
theorem jj (e:ab):e.nat<115792089237316195423570985008687907853269984665640564039457584007913129639936:=by
 have h0:=e.w0.toNat_lt
 have h1:=e.w1.toNat_lt
 have h2:=e.w2.toNat_lt
 have h3:=e.w3.toNat_lt
 unfold Sx.ab.nat
 omega
theorem CH {a b X Y:Nat} (ha:a<18446744073709551616) (hb:b<18446744073709551616) (h:a+18446744073709551616*X=b+18446744073709551616*Y):a=b/\X=Y:=by
 omega
theorem gF {e f:ab} (h:e.nat=f.nat):e=f:=by
 unfold Sx.ab.nat at h
 obtain ⟨h0,h⟩:=CH e.w0.toNat_lt f.w0.toNat_lt h
 obtain ⟨h1,h⟩:=CH e.w1.toNat_lt f.w1.toNat_lt h
 obtain ⟨h2,h3⟩:=CH e.w2.toNat_lt f.w2.toNat_lt h
 obtain ⟨a,b,c,d⟩:=e
 obtain ⟨a',b',c',d'⟩:=f
 simp only at h0 h1 h2 h3
 rw [UInt64.toNat_inj.1 h0,UInt64.toNat_inj.1 h1,UInt64.toNat_inj.1 h2,UInt64.toNat_inj.1 h3]
theorem div_eq {n a b:Nat} (ha:a<18446744073709551616) (h:n=a+18446744073709551616*b):n/18446744073709551616=b/\n%18446744073709551616=a:=by
 omega
theorem apY {n:Nat} {a b c d:UInt64} {k:Nat} (h:n=a.toNat+18446744073709551616*(b.toNat+18446744073709551616*(c.toNat+18446744073709551616*(d.toNat+18446744073709551616*k)))):ofN n=⟨a,b,c,d⟩:=by
 obtain ⟨h1,h0⟩:=div_eq a.toNat_lt h
 obtain ⟨h2,h3⟩:=div_eq b.toNat_lt h1
 obtain ⟨h4,h5⟩:=div_eq c.toNat_lt h2
 have h6:n/18446744073709551616/18446744073709551616/18446744073709551616%18446744073709551616=d.toNat:=by
  rw [h4]
  have:=d.toNat_lt
  omega
 unfold ofN
 have e:∀ (m:Nat) (x:UInt64),m%18446744073709551616=x.toNat->UInt64.ofNat m=x:=λm x hm=>by
  rw [<-rB,dv]
  exact hm
 rw [e _ a h0,e _ b h3,e _ c h5,e _ d h6]
theorem QB (n:Nat):(ofN n).nat=n%115792089237316195423570985008687907853269984665640564039457584007913129639936:=by
 unfold ofN ab.nat
 simp only [dv]
 rw [show (2:Nat)^64=18446744073709551616 from rfl]
 omega
theorem n7 {n:Nat} (h:n<115792089237316195423570985008687907853269984665640564039457584007913129639936):(ofN n).nat=n:=by
 rw [QB]
 exact bm h
theorem A5 (e:ab):ofN e.nat=e:=gF (n7 (jj e))
def Tb (a b:ab):ab×Bool:=(ofN (a.nat+b.nat),Nat.ble 115792089237316195423570985008687907853269984665640564039457584007913129639936 (a.nat+b.nat))
def m5 (a b:ab):ab×Bool:=(ofN (a.nat+115792089237316195423570985008687907853269984665640564039457584007913129639936-b.nat),Nat.blt a.nat b.nat)
theorem SU {x y c s k X Y R:Nat} (h1:x+y+c=s+18446744073709551616*k) (h2:X+Y+k=R):(x+18446744073709551616*X)+(y+18446744073709551616*Y)+c=s+18446744073709551616*R:=by
 omega
theorem PU {x y c s k X Y R Q:Nat} (h1:x+18446744073709551616*k=s+y+c) (h2:X+18446744073709551616*Q=R+Y+k):(x+18446744073709551616*X)+18446744073709551616*(18446744073709551616*Q)=s+18446744073709551616*R+(y+18446744073709551616*Y)+c:=by
 omega
theorem ajA (a b:ab):let k0:=Gc a.w0 b.w0 0;let k1:=Gc a.w1 b.w1 k0;let k2:=Gc a.w2 b.w2 k1;let k3:=Gc a.w3 b.w3 k2
 (k0.toNat<=1/\k1.toNat<=1/\k2.toNat<=1)/\Tb a b=(⟨zU a.w0 b.w0 0,zU a.w1 b.w1 k0,zU a.w2 b.w2 k1,zU a.w3 b.w3 k2⟩,!(k3==0)):=by
 intro k0 k1 k2 k3
 have l0:k0.toNat<=1:=Lz (by decide)
 have l1:k1.toNat<=1:=Lz l0
 have l2:k2.toNat<=1:=Lz l1
 have l3:k3.toNat<=1:=Lz l2
 refine ⟨⟨l0,l1,l2⟩,?_⟩
 have h:=SU (mS a.w0 b.w0 0) (SU (mS a.w1 b.w1 k0) (SU (mS a.w2 b.w2 k1) (mS a.w3 b.w3 k2)))
 rw [show (0:UInt64).toNat=0 from rfl,Nat.add_zero] at h
 unfold Tb
 have hn:a.nat+b.nat=(zU a.w0 b.w0 0).toNat+18446744073709551616*((zU a.w1 b.w1 k0).toNat+18446744073709551616*((zU a.w2 b.w2 k1).toNat+18446744073709551616*((zU a.w3 b.w3 k2).toNat+18446744073709551616*k3.toNat))):=h
 rw [apY hn]
 congr 1
 have hs:=jj ⟨zU a.w0 b.w0 0,zU a.w1 b.w1 k0,zU a.w2 b.w2 k1,zU a.w3 b.w3 k2⟩
 unfold Sx.ab.nat at hs
 simp only at hs
 have hk:k3.toNat=0\/k3.toNat=1:=by omega
 rcases hk with hk|hk
 ·have e:k3=0:=UInt64.toNat_inj.1 hk
  rw [hk] at hn
  rw [e]
  cases hb:Nat.ble 115792089237316195423570985008687907853269984665640564039457584007913129639936 (a.nat+b.nat)
  ·rfl
  ·have:=Nat.le_of_ble_eq_true hb
   omega
 ·have e:(k3==0)=false:=by
   have:¬k3=0:=λe=>by rw [e] at hk;cases hk
   simpa using this
  rw [hk] at hn
  rw [e]
  exact jR (by omega)
theorem ajL (a b:ab):let k0:=aah a.w0 b.w0 0;let k1:=aah a.w1 b.w1 k0;let k2:=aah a.w2 b.w2 k1;let k3:=aah a.w3 b.w3 k2
 (k0.toNat<=1/\k1.toNat<=1/\k2.toNat<=1)/\m5 a b=(⟨rF a.w0 b.w0 0,rF a.w1 b.w1 k0,rF a.w2 b.w2 k1,rF a.w3 b.w3 k2⟩,!(k3==0)):=by
 intro k0 k1 k2 k3
 have l0:k0.toNat<=1:=HU
 have l1:k1.toNat<=1:=HU
 have l2:k2.toNat<=1:=HU
 have l3:k3.toNat<=1:=HU
 refine ⟨⟨l0,l1,l2⟩,?_⟩
 have h:=PU (AH (x:=a.w0) (y:=b.w0) (c:=0) (by decide)) (PU (AH (x:=a.w1) (y:=b.w1) l0) (PU (AH (x:=a.w2) (y:=b.w2) l1) (AH (x:=a.w3) (y:=b.w3) l2)))
 rw [show (0:UInt64).toNat=0 from rfl,Nat.add_zero] at h
 unfold m5
 have hs:=jj ⟨rF a.w0 b.w0 0,rF a.w1 b.w1 k0,rF a.w2 b.w2 k1,rF a.w3 b.w3 k2⟩
 have h':a.nat+18446744073709551616*(18446744073709551616*(18446744073709551616*(18446744073709551616*k3.toNat)))=ab.nat ⟨rF a.w0 b.w0 0,rF a.w1 b.w1 k0,rF a.w2 b.w2 k1,rF a.w3 b.w3 k2⟩+b.nat:=h
 have ha:=jj a
 have hb:=jj b
 have hS:=jj ⟨rF a.w0 b.w0 0,rF a.w1 b.w1 k0,rF a.w2 b.w2 k1,rF a.w3 b.w3 k2⟩
 have e1:ofN (a.nat+115792089237316195423570985008687907853269984665640564039457584007913129639936-b.nat)=⟨rF a.w0 b.w0 0,rF a.w1 b.w1 k0,rF a.w2 b.w2 k1,rF a.w3 b.w3 k2⟩:=by
  apply gF
  rw [QB]
  generalize ab.nat ⟨rF a.w0 b.w0 0,rF a.w1 b.w1 k0,rF a.w2 b.w2 k1,rF a.w3 b.w3 k2⟩=S at*
  omega
 rw [e1]
 congr 1
 generalize ab.nat ⟨rF a.w0 b.w0 0,rF a.w1 b.w1 k0,rF a.w2 b.w2 k1,rF a.w3 b.w3 k2⟩=S at*
 have hk:k3.toNat=0\/k3.toNat=1:=by omega
 rcases hk with hk|hk
 ·have e:k3=0:=UInt64.toNat_inj.1 hk
  rw [hk] at h'
  rw [e]
  cases hq:Nat.blt a.nat b.nat
  ·rfl
  ·have:=dI hq
   omega
 ·have e:(k3==0)=false:=by
   have:¬k3=0:=λe=>by rw [e] at hk;cases hk
   simpa using this
  rw [hk] at h'
  rw [e]
  exact jR (show a.nat+1<=b.nat by omega)
def lst (e:ab):List UInt64:= [e.w0,e.w1,e.w2,e.w3]
def elemOf (l:List UInt64):ab:=⟨l.getD 0 0,l.getD 1 0,l.getD 2 0,l.getD 3 0⟩
theorem cN {l:List UInt64} (h:l.length=4):lst (elemOf l)=l:=by
 match l,h with
 | [a,b,c,d],_=>rfl
theorem amI (e:ab):elemOf (lst e)=e:=rfl
theorem NF (e:ab):(lst e).length=4:=rfl
theorem BV {h l y:UInt64} (hy:0<y.toNat):(adn h l y).toNat=(h.toNat*18446744073709551616+l.toNat)%y.toNat:=by
 unfold adn
 rw [dv]
 exact bm (Nat.lt_trans (Nat.mod_lt _ hy) y.toNat_lt)
theorem QQ (r x m:Nat):(r%m*18446744073709551616+x)%m=(r*18446744073709551616+x)%m:=by
 rw [Nat.add_mod,Nat.mul_mod,Nat.mod_mod,<-Nat.mul_mod,<-Nat.add_mod]
theorem aer (a b:ab):(m5 a b).2=Nat.blt a.nat b.nat:=rfl
theorem Ao {a b:ab} (h:b.nat<=a.nat):(m5 a b).1.nat=a.nat-b.nat:=by
 have ha:=jj a
 show (ofN _).nat=_
 rw [QB]
 omega
theorem ad1 {w N r:Nat} (hr:r<64):(w+18446744073709551616*N)/2^r%2=w/2^r%2:=by
 have e:18446744073709551616*N=2^r*(2*(2^(63-r)*N)):=by
  rw [<-Nat.mul_assoc,<-Nat.mul_assoc,Nat.mul_comm (2^r) 2,Nat.mul_assoc 2,<-Nat.pow_add,show r+(63-r)=63 by omega]
 rw [e,Nat.add_mul_div_left _ _ (Nat.two_pow_pos r),Nat.add_mul_mod_self_left]
theorem CG {w N:Nat} (hw:w<18446744073709551616) (r:Nat):(w+18446744073709551616*N)/2^(64+r)=N/2^r:=by
 rw [Nat.pow_add,<-Nat.div_div_eq_div_mul,show 2^64=18446744073709551616 from rfl,show (w+18446744073709551616*N)/18446744073709551616=N by omega]
theorem ah5 {a:ab} {q r:Nat} (hq:q<4) (hr:r<64):((lst a).getD q 0).toNat/2^r%2=a.nat/2^(64*q+r)%2:=by
 have h0:=a.w0.toNat_lt
 have h1:=a.w1.toNat_lt
 have h2:=a.w2.toNat_lt
 unfold Sx.ab.nat
 have hq':q=0\/q=1\/q=2\/q=3:=by omega
 rcases hq' with rfl|rfl|rfl|rfl
 ·rw [Nat.mul_zero,Nat.zero_add,ad1 hr];rfl
 ·rw [show 64*1+r=64+r by omega,CG h0,ad1 hr];rfl
 ·rw [show 64*2+r=64+(64+r) by omega,CG h0,CG h1,ad1 hr];rfl
 ·rw [show 64*3+r=64+(64+(64+r)) by omega,CG h0,CG h1,CG h2];rfl
def avt (n i:Nat):Bool:=Nat.beq (n/2^i%2) 1
theorem atO (x:UInt64):(x&&&1==1)=Nat.beq (x.toNat%2) 1:=by
 have e:(x&&&1).toNat=x.toNat%2:=by
  rw [UInt64.toNat_and]
  exact Nat.and_two_pow_sub_one_eq_mod x.toNat 1
 rw [<-e]
 by_cases h:x&&&1=1
 ·rw [h];rfl
 ·have h':¬(x&&&1).toNat=1:=λh'=>h (UInt64.toNat_inj.1 h')
  have h2:Nat.beq (x&&&1).toNat 1=false:=by
   cases hb:Nat.beq (x&&&1).toNat 1
   ·rfl
   ·exact absurd (aY hb) h'
  rw [h2]
  simpa using h
theorem agd (x:ab):(x.w0&&&1==1)=(x.w0%2==1):=by
 have h:=atO x.w0
 rw [h]
 have h2:(x.w0%2).toNat=x.w0.toNat%2:=by rw [UInt64.toNat_mod];rfl
 rw [<-h2]
 by_cases h:x.w0%2=1
 ·rw [h];rfl
 ·have hn:¬(x.w0%2).toNat=1:=λe=>h (UInt64.toNat_inj.1 e)
  have:Nat.beq (x.w0%2).toNat 1=false:=by
   cases hb:Nat.beq (x.w0%2).toNat 1
   ·rfl
   ·exact absurd (aY hb) hn
  rw [this]
  symm
  simpa using h
abbrev FZ:Ty:=.prod .elem (.prod .elem (.prod .elem .bool))
def SR:af:=⟨[aQ,aQ,aQ],[],true,0,false⟩
abbrev at7:Type:=ain×Unit
def at6:aL:=⟨LN,[],false⟩
def EC (x:at7):Bool:=decide (x.1.2.2.1.toNat<=1)
def aid (x:at7):OT SR.Y:=.ok ⟨at6,((zU x.1.1 x.1.2.1 x.1.2.2.1,Gc x.1.1 x.1.2.1 x.1.2.2.1,()),())⟩
theorem anp (a b c:UInt64) (hc:c.toNat<=1) (w:World):(callFunc 159 #[eD a,eD b,eD c]).run aj w=.ok (.value (.tuple #[eD (zU a b c),eD (Gc a b c)])) w:=by
 unfold eD
 rw [run_callFunc_extern Tryz.func159 (by kernel_rfl) (by kernel_rfl) (by kernel_rfl) (e:=add64Entry) (by kernel_rfl),run_add64 (a.toNat:Int) (b.toNat:Int) (c.toNat:Int) (by omega) (by omega) (by omega) (by omega)]
 have ha:=a.toNat_lt
 have hb:=b.toNat_lt
 have e1:(((zU a b c).toNat:Nat):Int)=((a.toNat:Int)+b.toNat+c.toNat)%18446744073709551616:=by
  unfold zU
  rw [dv,bm (by omega)]
  omega
 have e2:(((Gc a b c).toNat:Nat):Int)=((a.toNat:Int)+b.toNat+c.toNat)/18446744073709551616:=by
  unfold Gc
  rw [dv,bm (by omega)]
  omega
 rw [e1,e2]
 rfl
theorem at5:aa aj 159 (SR.az EC aid):=by
 refine aAC (k:=0) (by kernel_rfl) λx oy vs N w hp ho hr=> ?_
 obtain ⟨⟨a,b,c,⟨⟩⟩,⟨⟩⟩:=x
 cases ho
 have hc:c.toNat<=1:=bn hp
 have hr':SV.bz N [.u64 a,.u64 b,.u64 c] vs:=hr
 simp only [SV.bz,SV.rel] at hr'
 obtain ⟨_,_,rfl,rfl,_,_,rfl,rfl,_,_,rfl,rfl,rfl⟩:=hr'
 refine ⟨.tup [.u64 (zU a b c),.u64 (Gc a b c)],_,anp a b c hc w,?_,⟨rfl,by kernel_rfl⟩⟩
 simp only [SV.rel]
 exact ⟨_,rfl,by simp only [SV.bz,SV.rel];exact ⟨_,_,rfl,rfl,_,_,rfl,rfl,rfl⟩⟩
def zR:bx:=(SR.az EC aid)
theorem Yv:aa aj 159 zR:=at5
theorem Yu:ax zR:=av
def ajy:Env:=aq 159 zR avj
theorem ant:bU aj te ajy:=aU follows avi Yv Yu
def SC:af:=⟨[aQ,aQ,aQ],[],true,0,false⟩
abbrev aty:Type:=ain×Unit
def atx:aL:=⟨LN,[],false⟩
def Ew (x:aty):Bool:=decide (x.1.2.2.1.toNat<=1)
def ahU (x:aty):OT SC.Y:=.ok ⟨atx,((rF x.1.1 x.1.2.1 x.1.2.2.1,aah x.1.1 x.1.2.1 x.1.2.2.1,()),())⟩
def az6:Array Value->Sem Value:=λargs=>do
 let (x,y,b) <-Extern.MathBitsCarry.three "Sub64" args
 pure (Extern.MathBitsCarry.pair ((x+Extern.MathBitsCarry.m64-y-b)%Extern.MathBitsCarry.m64) (if x<y+b then 1 else 0))
theorem aku {P:Program} (x y b:Nat) (hb:b<=1) (w:World):
 (az6 #[.int .u64 x,.int .u64 y,.int .u64 b]).run P w=
  .ok (.tuple #[.int .u64 (((x+18446744073709551616-y-b)%18446744073709551616:Nat):Int),.int .u64 ((if x<y+b then 1 else 0:Nat):Int)]) w:=by
 have:b=0\/b=1:=by omega
 rcases this with rfl|rfl<;>rfl
theorem ang (a b c:UInt64) (hc:c.toNat<=1) (w:World):(callFunc 153 #[eD a,eD b,eD c]).run aj w=.ok (.value (.tuple #[eD (rF a b c),eD (aah a b c)])) w:=by
 unfold eD
 rw [run_callFunc_extern Tryz.func153 (by kernel_rfl) (by kernel_rfl) (by kernel_rfl) (e:=az6) (by kernel_rfl),aku a.toNat b.toNat c.toNat (by omega)]
 have ha:=a.toNat_lt
 have hb:=b.toNat_lt
 have e1:(rF a b c).toNat=(a.toNat+18446744073709551616-b.toNat-c.toNat)%18446744073709551616:=by
  unfold rF
  rw [dv,bm (by omega)]
 have e2:(aah a b c).toNat=if a.toNat<b.toNat+c.toNat then 1 else 0:=by
  unfold aah
  rw [dv,bm (by split<;>omega)]
 rw [e1,e2]
 rfl
theorem atw:aa aj 153 (SC.az Ew ahU):=by
 refine aAC (k:=0) (by kernel_rfl) λx oy vs N w hp ho hr=> ?_
 obtain ⟨⟨a,b,c,⟨⟩⟩,⟨⟩⟩:=x
 cases ho
 have hc:c.toNat<=1:=bn hp
 have hr':SV.bz N [.u64 a,.u64 b,.u64 c] vs:=hr
 simp only [SV.bz,SV.rel] at hr'
 obtain ⟨_,_,rfl,rfl,_,_,rfl,rfl,_,_,rfl,rfl,rfl⟩:=hr'
 refine ⟨.tup [.u64 (rF a b c),.u64 (aah a b c)],_,ang a b c hc w,?_,⟨rfl,by kernel_rfl⟩⟩
 simp only [SV.rel]
 exact ⟨_,rfl,by simp only [SV.bz,SV.rel];exact ⟨_,_,rfl,rfl,_,_,rfl,rfl,rfl⟩⟩
def zI:bx:=(SC.az Ew ahU)
theorem X5:aa aj 153 zI:=atw
theorem X4:ax zI:=av
def ajp:Env:=aq 153 zI ajy
theorem Pk:bU aj te ajp:=aU follows ant X5 X4
def qS:af:=⟨LN,[],true,0,false⟩
abbrev Le:Type:=(UInt64×mV)×Unit
def Ld:aL:=⟨LN,[],false⟩
def SF (a0:UInt64) (a1:UInt64):OT qS.Y:=
 let z0:UInt64:=bC a0 (32:Int)
 let z1:UInt64:=bC a1 (32:Int)
 let z2:UInt64:=z0*(a1&&&(4294967295:UInt64))+bC ((a0&&&(4294967295:UInt64))*(a1&&&(4294967295:UInt64))) (32:Int)
 (.ok ⟨Ld,((z0*z1+bC z2 (32:Int)+bC ((z2&&&(4294967295:UInt64))+(a0&&&(4294967295:UInt64))*z1) (32:Int),a0*a1,()),())⟩)
theorem adW (pre:Le->Bool) (F:Le->OT qS.Y) (hF:∀ (x:Le) oy,pre x=true->(F x).run=some oy->(SF x.1.1 x.1.2.1).run=some oy):aa aj 191 (qS.az pre F):=
 dh Pk 191 Tryz.f191 qS [Ld] bE (λx=>SF x.1.1 x.1.2.1) hF
def OK (_:Le):Bool:=true
def SG (x:Le):OT qS.Y:=.ok ⟨Ld,((avo x.1.1 x.1.2.1,x.1.1*x.1.2.1,()),())⟩
theorem atG:aa aj 191 (qS.az OK SG):=adW _ _ λx oy _ ho=>by
 rw [<-ho]
 simp only [SG,SF,aFQ]
def zL:bx:=(qS.az OK SG)
theorem Yc:aa aj 191 zL:=atG
theorem Yb:ax zL:=av
def ajt:Env:=aq 191 zL ajp
theorem Pn:bU aj te ajt:=aU follows Pk Yc Yb
def qU:af:=⟨[aQ],[],true,0,false⟩
abbrev Lk:Type:=mV×Unit
def fU:aL:=⟨jG,[],false⟩
def G1 (a0:UInt64):OT qU.Y:=
 let z0:UInt64:=bC a0 (32:Int)
 let z1:UInt64:=bC z0 (16:Int)
 let z2:Int:=(↑(UInt8.toNat (UInt64.toUInt8 (bC z1 (8:Int)))):Int)
 let z3:aH:=List.replicate 64 (8:UInt8)
 let z4:aH:=List.append (List.append [(0:UInt8),(1:UInt8),(2:UInt8),(2:UInt8),(3:UInt8),(3:UInt8),(3:UInt8),(3:UInt8),(4:UInt8),(4:UInt8),(4:UInt8),(4:UInt8),(4:UInt8),(4:UInt8),(4:UInt8),(4:UInt8),(5:UInt8),(5:UInt8),(5:UInt8),(5:UInt8),(5:UInt8),(5:UInt8),(5:UInt8),(5:UInt8),(5:UInt8),(5:UInt8),(5:UInt8),(5:UInt8),(5:UInt8),(5:UInt8),(5:UInt8),(5:UInt8),(6:UInt8),(6:UInt8),(6:UInt8),(6:UInt8),(6:UInt8),(6:UInt8),(6:UInt8),(6:UInt8),(6:UInt8),(6:UInt8),(6:UInt8),(6:UInt8),(6:UInt8),(6:UInt8),(6:UInt8),(6:UInt8),(6:UInt8),(6:UInt8),(6:UInt8),(6:UInt8),(6:UInt8),(6:UInt8),(6:UInt8),(6:UInt8),(6:UInt8),(6:UInt8),(6:UInt8),(6:UInt8),(6:UInt8),(6:UInt8),(6:UInt8),(6:UInt8)] (List.replicate 64 (7:UInt8))) (List.append z3 z3)
 let z5:Int:=(56:Int)+(↑(UInt8.toNat (List.getD z4 (Int.toNat z2) (0:UInt8))):Int)
 let z6:Int:=(↑(UInt8.toNat (UInt64.toUInt8 z1)):Int)
 let z7:Int:=(48:Int)+(↑(UInt8.toNat (List.getD z4 (Int.toNat z6) (0:UInt8))):Int)
 let z8:Int:=(↑(UInt8.toNat (UInt64.toUInt8 (bC z0 (8:Int)))):Int)
 let z9:Int:=(40:Int)+(↑(UInt8.toNat (List.getD z4 (Int.toNat z8) (0:UInt8))):Int)
 let z10:Int:=(↑(UInt8.toNat (UInt64.toUInt8 z0)):Int)
 let z11:Int:=(32:Int)+(↑(UInt8.toNat (List.getD z4 (Int.toNat z10) (0:UInt8))):Int)
 let z12:UInt64:=bC a0 (16:Int)
 let z13:Int:=(↑(UInt8.toNat (UInt64.toUInt8 (bC z12 (8:Int)))):Int)
 let z14:Int:=(24:Int)+(↑(UInt8.toNat (List.getD z4 (Int.toNat z13) (0:UInt8))):Int)
 let z15:Int:=(↑(UInt8.toNat (UInt64.toUInt8 z12)):Int)
 let z16:Int:=(16:Int)+(↑(UInt8.toNat (List.getD z4 (Int.toNat z15) (0:UInt8))):Int)
 let z17:Int:=(↑(UInt8.toNat (UInt64.toUInt8 (bC a0 (8:Int)))):Int)
 let z18:Int:=(8:Int)+(↑(UInt8.toNat (List.getD z4 (Int.toNat z17) (0:UInt8))):Int)
 let z19:Int:=(↑(UInt8.toNat (UInt64.toUInt8 a0)):Int)
 let z20:Int:=(0:Int)+(↑(UInt8.toNat (List.getD z4 (Int.toNat z19) (0:UInt8))):Int)
 (.br (decide ((4294967296:UInt64)<=a0))
 (.br (decide ((65536:UInt64)<=z0))
  (.br (decide ((256:UInt64)<=z1))
   (gd [inB z2 256,inR z5] (.ok ⟨fU,((z5,()),())⟩))
   (gd [inB z6 256,inR z7] (.ok ⟨fU,((z7,()),())⟩)))
  (.br (decide ((256:UInt64)<=z0))
   (gd [inB z8 256,inR z9] (.ok ⟨fU,((z9,()),())⟩))
   (gd [inB z10 256,inR z11] (.ok ⟨fU,((z11,()),())⟩))))
 (.br (decide ((65536:UInt64)<=a0))
  (.br (decide ((256:UInt64)<=z12))
   (gd [inB z13 256,inR z14] (.ok ⟨fU,((z14,()),())⟩))
   (gd [inB z15 256,inR z16] (.ok ⟨fU,((z16,()),())⟩)))
  (.br (decide ((256:UInt64)<=a0))
   (gd [inB z17 256,inR z18] (.ok ⟨fU,((z18,()),())⟩))
   (gd [inB z19 256,inR z20] (.ok ⟨fU,((z20,()),())⟩)))))
theorem ad0 (pre:Lk->Bool) (F:Lk->OT qU.Y) (hF:∀ (x:Lk) oy,pre x=true->(F x).run=some oy->(G1 x.1.1).run=some oy):aa aj 190 (qU.az pre F):=
 dh Pn 190 Tryz.f190 qU [fU] bE (λx=>G1 x.1.1) hF
def jm (x:UInt64):Bool:=(x==16513537)||(x==16521217)
theorem ic {x:UInt64} (h:jm x=true):x=16513537\/x=16521217:=by
 simpa [jm] using h
def Ez (x:Lk):Bool:=jm x.1.1
def ah4 (_:Lk):OT qU.Y:=.ok ⟨fU,(((24:Int),()),())⟩
theorem Yh:(G1 16513537).run=some ⟨fU,(((24:Int),()),())⟩/\(G1 16521217).run=some ⟨fU,(((24:Int),()),())⟩:=⟨by kernel_rfl,by kernel_rfl⟩
theorem atL:aa aj 190 (qU.az Ez ah4):=ad0 _ _ λx oy hp ho=>by
 rw [<-ho]
 clear ho
 obtain ⟨⟨x,⟨⟩⟩,⟨⟩⟩:=x
 rcases ic hp with h|h
 ·have h:x=16513537:=h
  subst h
  exact Yh.1
 ·have h:x=16521217:=h
  subst h
  exact Yh.2
def zN:bx:=(qU.az Ez ah4)
theorem Yg:aa aj 190 zN:=atL
theorem Yf:ax zN:=av
def ajv:Env:=aq 190 zN ajt
theorem Po:bU aj te ajv:=aU follows Pn Yg Yf
def zM:af:=⟨[aQ],[],true,0,false⟩
abbrev Yd:Type:=mV×Unit
def SH:aL:=⟨jG,[],false⟩
def atJ (a0:UInt64):OT zM.Y:=
 (gd [Ez ((a0,()),())] (.ok ⟨SH,(((40:Int),()),())⟩))
theorem ann (pre:Yd->Bool) (F:Yd->OT zM.Y) (hF:∀ (x:Yd) oy,pre x=true->(F x).run=some oy->(atJ x.1.1).run=some oy):aa aj 177 (zM.az pre F):=
 dh Po 177 Tryz.f177 zM [SH] bE (λx=>atJ x.1.1) hF
def Li (x:Yd):Bool:=jm x.1.1
def atK (_:Yd):OT zM.Y:=.ok ⟨SH,(((40:Int),()),())⟩
theorem ay8:aa aj 177 (zM.az Li atK):=ann _ _ λx oy hp ho=>by
 rw [<-ho]
 clear ho
 obtain ⟨⟨x,⟨⟩⟩,⟨⟩⟩:=x
 have hp:jm x=true:=hp
 refine (ae ?_).trans rfl
 simp only [aA,aI,aJ,aw]
 first|exact hp|exact ⟨hp,rfl⟩
def Ey:bx:=(zM.az Li atK)
theorem adZ:aa aj 177 Ey:=ay8
theorem adY:ax Ey:=av
def avk:Env:=aq 177 Ey ajv
theorem Cz:bU aj te avk:=aU follows Po adZ adY
def nM:af:=⟨[aQ,aQ,aQ],[],true,0,false⟩
abbrev Lp:Type:=ain×Unit
def atQ:Shape:=⟨135,[(2,aQ),(8,aQ),(9,aQ),(10,aQ),(11,aQ),(13,aQ),(14,aQ),(15,aQ),(16,aQ)],[],0,true⟩
abbrev fA:Type:=aup×Unit
def mQ:Shape:=⟨135,[(2,aQ),(8,aQ),(9,aQ),(10,aQ),(11,aQ),(13,aQ),(14,aQ),(15,aQ)],[],0,true⟩
abbrev ug:Type:=(UInt64×UInt64×aiw)×Unit
def atW (a2:UInt64) (a8:UInt64) (a9:UInt64) (a10:UInt64) (a11:UInt64) (a13:UInt64) (a14:UInt64) (a15:UInt64) (a16:UInt64):OT (Sum fA aZ):=
 let z0:Bool:=decide ((4294967296:UInt64)<=a16+a9)
 (.br (decide ((4294967296:UInt64)<=a15))
 (.br (z0)
  (.ok (.inr ⟨(.exit 0,mQ),((a2,a8,a9,a10,a11,a13,a14,a15-(1:UInt64),()),())⟩))
  (.ok (.inl ((a2,a8,a9,a10,a11,a13,a14,a15-(1:UInt64),a16+a9,()),()))))
 (.br (decide ((4294967296:UInt64)*a16+a13<a15*a10))
  (.br (z0)
   (.ok (.inr ⟨(.exit 0,mQ),((a2,a8,a9,a10,a11,a13,a14,a15-(1:UInt64),()),())⟩))
   (.ok (.inl ((a2,a8,a9,a10,a11,a13,a14,a15-(1:UInt64),a16+a9,()),()))))
  (.ok (.inr ⟨(.exit 0,mQ),((a2,a8,a9,a10,a11,a13,a14,a15,()),())⟩))))
def Lo (s:fA):OT (Sum fA aZ):=atW s.1.1 s.1.2.1 s.1.2.2.1 s.1.2.2.2.1 s.1.2.2.2.2.1 s.1.2.2.2.2.2.1 s.1.2.2.2.2.2.2.1 s.1.2.2.2.2.2.2.2.1 s.1.2.2.2.2.2.2.2.2.1
def Yq (g0_0:fA->ug) (s:fA):OT aZ:=(.ok ⟨(.exit 0,mQ),g0_0 s⟩)
def atP:Shape:=⟨135,[(2,aQ),(8,aQ),(9,aQ),(10,aQ),(14,aQ),(15,aQ),(16,aQ),(17,aQ),(18,aQ)],[],0,true⟩
abbrev ik:Type:=aup×Unit
def mP:Shape:=⟨135,[(2,aQ),(8,aQ),(14,aQ),(15,aQ),(17,aQ),(18,aQ)],[],0,true⟩
abbrev uf:Type:=aiw×Unit
def atV (a2:UInt64) (a8:UInt64) (a9:UInt64) (a10:UInt64) (a14:UInt64) (a15:UInt64) (a16:UInt64) (a17:UInt64) (a18:UInt64):OT (Sum ik aZ):=
 let z0:Bool:=decide ((4294967296:UInt64)<=a16+a9)
 (.br (decide ((4294967296:UInt64)<=a18))
 (.br (z0)
  (.ok (.inr ⟨(.exit 2,mP),((a2,a8,a14,a15,a17,a18-(1:UInt64),()),())⟩))
  (.ok (.inl ((a2,a8,a9,a10,a14,a15,a16+a9,a17,a18-(1:UInt64),()),()))))
 (.br (decide ((4294967296:UInt64)*a16+a14<a18*a10))
  (.br (z0)
   (.ok (.inr ⟨(.exit 2,mP),((a2,a8,a14,a15,a17,a18-(1:UInt64),()),())⟩))
   (.ok (.inl ((a2,a8,a9,a10,a14,a15,a16+a9,a17,a18-(1:UInt64),()),()))))
  (.ok (.inr ⟨(.exit 2,mP),((a2,a8,a14,a15,a17,a18,()),())⟩))))
def Ln (s:ik):OT (Sum ik aZ):=atV s.1.1 s.1.2.1 s.1.2.2.1 s.1.2.2.2.1 s.1.2.2.2.2.1 s.1.2.2.2.2.2.1 s.1.2.2.2.2.2.2.1 s.1.2.2.2.2.2.2.2.1 s.1.2.2.2.2.2.2.2.2.1
def Yp (g2_2:ik->uf) (s:ik):OT aZ:=(.ok ⟨(.exit 2,mP),g2_2 s⟩)
def oN:aL:=⟨LN,[],false⟩
section
variable (ok0:fA->Bool) (g0_0:fA->ug) (ok2:ik->Bool) (g2_2:ik->uf)
def SL (a0:UInt64) (a1:UInt64) (a2:UInt64):OT nM.Y:=
 let z0:Bool:= !a2==(0:UInt64)
 let z1:UInt64:=cC a2 (40:Int)
 let z2:UInt64:=bC z1 (32:Int)
 let z3:UInt64:=cC a0 (40:Int)|||bC a1 (24:Int)
 let z4:UInt64:=cC a1 (40:Int)
 let z5:UInt64:=z3/z2
 let z6:fA:=((z1,(40:UInt64),z2,z1&&&(4294967295:UInt64),z3,bC z4 (32:Int),z4&&&(4294967295:UInt64),z5,z3-z5*z2,()),())
 let z7:=(g0_0 z6).fst
 let z8:=z7.snd
 let z9:=z8.snd
 let z10:=z9.fst
 let z11:=z7.fst
 let z12:=z9.snd
 let z13:=z12.snd
 let z14:=z13.snd
 let z15:=z14.snd
 let z16:=z15.snd.fst
 let z17:UInt64:=z13.fst*(4294967296:UInt64)+z14.fst-z16*z11
 let z18:UInt64:=z17/z10
 let z19:fA:=((z11,z8.fst,z10,z12.fst,z15.fst,z16,z17-z18*z10,z17,z18,()),())
 let z20:=(g2_2 z19).fst
 let z21:=z20.snd
 let z22:=z21.snd
 let z23:=z22.snd
 let z24:=z23.snd
 let z25:=z24.snd.fst
 (.br (a2==(0:UInt64))
 .fail
 (.br (decide (a2<=a0))
  .fail
  (.br (a0==(0:UInt64))
   (gd [z0,z0] (.ok ⟨oN,((a1/a2,a1%a2,()),())⟩))
   (gd [Li ((a2,()),()),!z2==(0:UInt64),ok0 z6,!z10==(0:UInt64),ok2 z19] (.ok ⟨oN,((z23.fst*(4294967296:UInt64)+z25,bC (z24.fst*(4294967296:UInt64)+z22.fst-z25*z20.fst) (↑(UInt64.toNat z21.fst):Int),()),())⟩)))))
theorem ad4 (h0:bh Lo ok0 (Yq g0_0)) (h2:bh Ln ok2 (Yp g2_2)) (pre:Lp->Bool) (F:Lp->OT nM.Y) (hF:∀ (x:Lp) oy,pre x=true->(F x).run=some oy->(SL ok0 g0_0 ok2 g2_2 x.1.1 x.1.2.1 x.1.2.2.1).run=some oy):aa aj 152 (nM.az pre F):=
 dh Cz 152 Tryz.f152 nM [oN] (kZ Cz 2 atP [(2,mP)] none none Ln bE h2 (kZ Cz 0 atQ [(0,mQ)] none none Lo bE h0 bE)) (λx=>SL ok0 g0_0 ok2 g2_2 x.1.1 x.1.2.1 x.1.2.2.1) hF
end
def OM (s:fA):Bool:=decide (s.1.2.2.2.1=0/\s.1.2.2.2.2.2.2.2.1<4294967296)
def Yo (s:fA):ug:=((s.1.1,s.1.2.1,s.1.2.2.1,s.1.2.2.2.1,s.1.2.2.2.2.1,s.1.2.2.2.2.2.1,s.1.2.2.2.2.2.2.1,s.1.2.2.2.2.2.2.2.1,()),())
theorem IM {a b:UInt64} (h:b<a):decide (a<=b)=false:=bq (by rw [UInt64.le_iff_toNat_le,UInt64.lt_iff_toNat_lt] at*;omega)
theorem not_lt_zero {a b:UInt64}:decide (a<b*0)=false:=bq (by
 have:b*0=0:=by rw [<-rB];simp
 rw [this,UInt64.lt_iff_toNat_lt]
 exact Nat.not_lt_zero _)
theorem atU:bh Lo OM (Yq Yo):=by
 rintro ⟨⟨a2,a8,a9,a10,a11,a13,a14,a15,a16,⟨⟩⟩,⟨⟩⟩ h
 have h':=bn h
 dsimp only at h'
 obtain ⟨rfl,hl⟩:=h'
 exact ⟨1,_,aV ((OT.au (IM hl)).trans (OT.au not_lt_zero)),rfl⟩
def OL (s:ik):Bool:=decide (s.1.2.2.2.1=0/\s.1.2.2.2.2.2.2.2.2.1<4294967296)
def Yn (s:ik):uf:=((s.1.1,s.1.2.1,s.1.2.2.2.2.1,s.1.2.2.2.2.2.1,s.1.2.2.2.2.2.2.2.1,s.1.2.2.2.2.2.2.2.2.1,()),())
theorem atT:bh Ln OL (Yp Yn):=by
 rintro ⟨⟨a2,a8,a9,a10,a14,a15,a16,a17,a18,⟨⟩⟩,⟨⟩⟩ h
 have h':=bn h
 dsimp only at h'
 obtain ⟨rfl,hl⟩:=h'
 exact ⟨1,_,aV ((OT.au (IM hl)).trans (OT.au not_lt_zero)),rfl⟩
def v8 (x:Lp):Bool:=jm x.1.2.2.1&&decide (x.1.1<x.1.2.2.1)
def SM (x:Lp):OT nM.Y:=.ok ⟨oN,((aE7 x.1.1 x.1.2.1 x.1.2.2.1,adn x.1.1 x.1.2.1 x.1.2.2.1,()),())⟩
theorem anM {v z:Nat} (hv:v<4294967296) (hz:z<4294967296):(v*4294967296%2^64+z)%2^64=(v*(256*16777216)+z)%2^64:=by
 rw [bm (a:=v*4294967296) (by omega)]
theorem avB {s:Nat} (hs:s<4294967296):s*4294967296/2^40=s/256%2^64:=by
 rw [bm (by omega),show (2:Nat)^40=256*4294967296 from rfl,Nat.mul_div_mul_right _ _ (by omega)]
theorem Yk {h l y:UInt64} {m:Nat} (hm:y.toNat=m) (hy:(cC y 40).toNat=m*1099511627776) (hy1:(bC (cC y 40) 32).toNat=m*256) (hy0:cC y 40&&&4294967295=0) (hm0:0<m) (hm1:m<16777216) (hh:h.toNat<m):
 let u:=cC h 40|||bC l 24
 let q1:=u/bC (cC y 40) 32
 let un21:=u*4294967296+bC (cC l 40) 32-q1*cC y 40
 let q0:=un21/bC (cC y 40) 32
 q1<4294967296/\q0<4294967296/\q1*4294967296+q0=aE7 h l y/\bC (un21*4294967296+(cC l 40&&&4294967295)-q0*cC y 40) 40=adn h l y:=by
 intro u q1 un21 q0
 have hl:=l.toNat_lt
 have hu:u.toNat=h.toNat*1099511627776+l.toNat/16777216:=by
  have e1:(cC h 40).toNat=h.toNat*1099511627776:=by
   rw [show ((40:Int))=((40:Nat):Int) from rfl,sa _ _ (by omega)]
   exact bm (by omega)
  have e2:(bC l 24).toNat=l.toNat/16777216:=iy l 24 (by omega)
  simp only [u]
  rw [UInt64.toNat_or,e1,e2,Nat.mul_comm]
  have:=Nat.two_pow_add_eq_or_of_lt (i:=40) (b:=l.toNat/16777216) (by omega) h.toNat
  exact this.symm
 have hun1:(bC (cC l 40) 32).toNat=l.toNat%16777216*256:=by
  rw [show ((32:Int))=((32:Nat):Int) from rfl,iy _ _ (by omega),show ((40:Int))=((40:Nat):Int) from rfl,sa _ _ (by omega)]
  omega
 have hun0:cC l 40&&&4294967295=0:=by
  rw [<-rB,me,show ((40:Int))=((40:Nat):Int) from rfl,sa _ _ (by omega)]
  show l.toNat*2^40%2^64%4294967296=0
  omega
 have hq1:q1.toNat=u.toNat/(m*256):=by simp only [q1];rw [UInt64.toNat_div,hy1]
 have hN:h.toNat*18446744073709551616+l.toNat=u.toNat*16777216+l.toNat%16777216:=by rw [hu];omega
 have hqr:u.toNat=q1.toNat*(m*256)+u.toNat%(m*256):=by
  rw [hq1,Nat.mul_comm]
  exact (Nat.div_add_mod _ _).symm
 have hr:u.toNat%(m*256)<m*256:=Nat.mod_lt _ (by omega)
 have hul:u.toNat<m*256*4294967296:=by rw [hu];omega
 have hq1l:q1.toNat<4294967296:=by rw [hq1];exact Nat.div_lt_of_lt_mul hul
 generalize hrr:u.toNat%(m*256)=r at*
 have hprod:q1.toNat*(m*1099511627776)=q1.toNat*(m*256)*4294967296:=by
  rw [Nat.mul_assoc,Nat.mul_assoc]
 have h21:un21.toNat=r*4294967296+l.toNat%16777216*256:=by
  simp only [un21]
  rw [UInt64.toNat_sub,UInt64.toNat_add,UInt64.toNat_mul,UInt64.toNat_mul,hun1,hy,hprod,show (4294967296:UInt64).toNat=4294967296 from rfl]
  generalize q1.toNat*(m*256)=A at*
  omega
 have hq0:q0.toNat=un21.toNat/(m*256):=by simp only [q0];rw [UInt64.toNat_div,hy1]
 have h21l:un21.toNat<m*256*4294967296:=by rw [h21];omega
 have hq0l:q0.toNat<4294967296:=by rw [hq0];exact Nat.div_lt_of_lt_mul h21l
 have hqr0:un21.toNat=q0.toNat*(m*256)+un21.toNat%(m*256):=by
  rw [hq0,Nat.mul_comm]
  exact (Nat.div_add_mod _ _).symm
 have hr0:un21.toNat%(m*256)<m*256:=Nat.mod_lt _ (by omega)
 obtain ⟨d1,d2⟩:=Sb (K:=16777216) (L:=256) hm0 (by omega) hN hqr
 have e21:(r*16777216+l.toNat%16777216)*256=un21.toNat:=by rw [h21];omega
 rw [e21] at d1 d2
 refine ⟨by rw [UInt64.lt_iff_toNat_lt];exact hq1l,by rw [UInt64.lt_iff_toNat_lt];exact hq0l,?_,?_⟩
 ·rw [<-rB,UInt64.toNat_add,UInt64.toNat_mul,show (4294967296:UInt64).toNat=4294967296 from rfl,hq0]
  unfold aE7
  rw [hm,dv,d1,<-hq0]
  exact anM hq1l hq0l
 ·have hprod0:q0.toNat*(m*1099511627776)=q0.toNat*(m*256)*4294967296:=by
   rw [Nat.mul_assoc,Nat.mul_assoc]
  have e3:(un21*4294967296+(cC l 40&&&4294967295)-q0*cC y 40).toNat=(un21.toNat%(m*256))*4294967296:=by
   rw [hun0,UInt64.toNat_sub,UInt64.toNat_add,UInt64.toNat_mul,UInt64.toNat_mul,hy,hprod0,show (4294967296:UInt64).toNat=4294967296 from rfl,show (0:UInt64).toNat=0 from rfl]
   generalize un21.toNat%(m*256)=s at*
   generalize q0.toNat*(m*256)=A at*
   omega
  rw [<-rB,show ((40:Int))=((40:Nat):Int) from rfl,iy _ _ (by omega),show ((40:Nat):Int)=40 from rfl,e3]
  unfold adn
  rw [hm,dv,d2]
  exact avB (by omega)
theorem aam {y:UInt64} (h:jm y=true):∃ m,y.toNat=m/\(cC y 40).toNat=m*1099511627776/\(bC (cC y 40) 32).toNat=m*256/\cC y 40&&&4294967295=0/\0<m/\m<16777216:=by
 rcases ic h with rfl|rfl
 ·exact ⟨16513537,rfl,by decide+kernel,by decide+kernel,by decide+kernel,by omega,by omega⟩
 ·exact ⟨16521217,rfl,by decide+kernel,by decide+kernel,by decide+kernel,by omega,by omega⟩
theorem atS:aa aj 152 (nM.az v8 SM):=ad4 OM Yo OL Yn atU atT _ _ λx oy hp ho=>by
 rw [<-ho]
 clear ho
 obtain ⟨⟨h,l,y,⟨⟩⟩,⟨⟩⟩:=x
 have hp':(jm y&&decide (h<y))=true:=hp
 rw [aw] at hp'
 obtain ⟨hs,hlt⟩:=hp'
 have hlt:=bn hlt
 obtain ⟨m,f1,f2,f3,f4,f5,f6⟩:=aam hs
 have hh:h.toNat<m:=by rw [<-f1];exact UInt64.lt_iff_toNat_lt.1 hlt
 have hy0:¬y=0:=λe=>by rw [e] at f1;simp at f1;omega
 have hyb:(y==0)=false:=by simpa using hy0
 have hle:decide (y<=h)=false:=IM hlt
 unfold SL
 refine (OT.au hyb).trans ((OT.au hle).trans ?_)
 by_cases h0:h=0
 ·subst h0
  refine (OT.ak rfl).trans ((ae ?_).trans ?_)
  ·simp only [hyb,aA,aI,aJ,Bool.not_false]
  ·have e1:aE7 0 l y=l/y:=by
    rw [<-rB]
    unfold aE7
    rw [dv,UInt64.toNat_div,show (0:UInt64).toNat=0 from rfl,Nat.zero_mul,Nat.zero_add]
    exact bm (Nat.lt_of_le_of_lt (Nat.div_le_self _ _) l.toNat_lt)
   have e2:adn 0 l y=l%y:=by
    rw [<-rB]
    unfold adn
    rw [dv,UInt64.toNat_mod,show (0:UInt64).toNat=0 from rfl,Nat.zero_mul,Nat.zero_add]
    exact bm (Nat.lt_of_le_of_lt (Nat.mod_le _ _) l.toNat_lt)
   simp only [SM,e1,e2]
 ·have hb:(h==0)=false:=by simpa using h0
  obtain ⟨w1,w2,w3,w4⟩:=Yk (l:=l) f1 f2 f3 f4 f5 f6 hh
  have hz:(!(bC (cC y 40) 32==0))=true:=by
   have:¬bC (cC y 40) 32=0:=λe=>by rw [e] at f3;simp at f3;omega
   simpa using this
  refine (OT.au hb).trans ((ae ?_).trans ?_)
  ·simp only [aA,aI,aJ,aw]
   exact ⟨hs,hz,ag ⟨f4,w1⟩,hz,ag ⟨f4,w2⟩⟩
  ·show some (⟨oN,((_,bC _ ((40:UInt64).toNat:Int),()),())⟩:nM.Y)=some ⟨oN,((aE7 h l y,adn h l y,()),())⟩
   rw [<-w3,<-w4]
   rfl
def zO:bx:=(nM.az v8 SM)
theorem Ym:aa aj 152 zO:=atS
theorem Yl:ax zO:=av
def ajw:Env:=aq 152 zO avk
theorem EP:bU aj te ajw:=aU follows Cz Ym Yl
def Ho:af:=⟨[du,du],[],true,0,false⟩
abbrev an1:Type:=xe×Unit
def aCc:Shape:=⟨29,aBi,aiz,0,true⟩
abbrev iW:Type:=YC
def Aq:Shape:=⟨29,[ej,jP,(7,aQ)],uq,0,true⟩
abbrev uI:Type:=aio
def aCf (a7:UInt64) (a9:Int) (c0:ap) (c1:ap) (c2:ap) (c3:ap):OT (Sum iW aZ):=
 let z0:Bool:=inB a9 4
 let z1:UInt64:=List.getD c0 (Int.toNat a9+0) (0:UInt64)
 let z2:UInt64:=List.getD c1 (Int.toNat a9+0) (0:UInt64)
 (.br (decide (a9<(4:Int)))
 (gd [z0,decide (Int.toNat a9+0<List.length c0),z0,decide (Int.toNat a9+0<List.length c1),EC ((z1,z2,a7,()),()),z0,decide (Int.toNat a9+0<List.length c3),inR (a9+(1:Int))] (.ok (.inl (((),(),(),(),Gc z1 z2 a7,a9+(1:Int),()),c0,c1,c2,List.set c3 (Int.toNat a9+0) (zU z1 z2 a7),()))))
 (.ok (.inr ⟨(.exit 0,Aq),(((),(),a7,()),c2,c3,())⟩)))
def PA (s:iW):OT (Sum iW aZ):=aCf s.1.2.2.2.2.1 s.1.2.2.2.2.2.1 s.2.1 s.2.2.1 s.2.2.2.1 s.2.2.2.2.1
def anZ (g0_0:iW->uI) (s:iW):OT aZ:=(.ok ⟨(.exit 0,Aq),g0_0 s⟩)
def Zz:aL:=⟨[du,rA],[],false⟩
section
variable (ok0:iW->Bool) (g0_0:iW->uI)
def azQ (a0:ab) (a1:ab):OT Ho.Y:=
 let z0:iW:=(((),(),(),(),(0:UInt64),(0:Int),()),[a0.w0,a0.w1,a0.w2,a0.w3],[a1.w0,a1.w1,a1.w2,a1.w3],[(0:UInt64),(0:UInt64),(0:UInt64),(0:UInt64)],[(0:UInt64),(0:UInt64),(0:UInt64),(0:UInt64)],())
 let z1:uI:=g0_0 z0
 let z2:=z1.snd
 let z3:=z2.snd.fst
 let z4:=z2.fst
 let z5:ap:=lay z4 z3 4 (0:UInt64)
 (gd [ok0 z0,decide (4<=List.length z3),decide ((4/1:Nat)+0<=List.length z4),decide (4<=List.length z5)] (.ok ⟨Zz,(({w0:=List.getD z5 0 0,w1:=List.getD z5 1 0,w2:=List.getD z5 2 0,w3:=List.getD z5 3 0},!z1.fst.snd.snd.fst==(0:UInt64),()),())⟩))
theorem anX (h0:bh PA ok0 (anZ g0_0)) (pre:an1->Bool) (F:an1->OT Ho.Y) (hF:∀ (x:an1) oy,pre x=true->(F x).run=some oy->(azQ ok0 g0_0 x.1.1 x.1.2.1).run=some oy):aa aj 128 (Ho.az pre F):=
 dh EP 128 Tryz.f128 Ho [Zz] (kZ EP 0 aCc [(0,Aq)] none none PA bE h0 bE) (λx=>azQ ok0 g0_0 x.1.1 x.1.2.1) hF
end
def azA (a b:ap) (k:Nat) (s:FL):FL:=(s.1.set k (zU (a.getD k 0) (b.getD k 0) s.2),Gc (a.getD k 0) (b.getD k 0) s.2)
def aev (s:iW):Bool:=decide (s.1.2.2.2.2.1=0/\s.1.2.2.2.2.2.1=0/\s.2.1.length=4/\s.2.2.1.length=4/\s.2.2.2.2.1= [0,0,0,0])
def anY (s:iW):uI:=(((),(),(upto (azA s.2.1 s.2.2.1) ([0,0,0,0],0) 4).2,()),s.2.2.2.1,(upto (azA s.2.1 s.2.2.1) ([0,0,0,0],0) 4).1,())
theorem aCe:bh PA aev (anZ anY):=by
 rintro ⟨⟨⟨⟩,⟨⟩,⟨⟩,⟨⟩,c,i,⟨⟩⟩,⟨c0,c1,c2,c3,⟨⟩⟩⟩ h
 have h':=bn h
 dsimp only at h'
 obtain ⟨rfl,rfl,h0,h1,rfl⟩:=h'
 have:=(bf (T:=PA) (λk s=>((((),(),(),(),s.2,(k:Int),()),c0,c1,c2,s.1,()):iW)) (azA c0 c1)
  (λs=>(⟨(.exit 0,Aq),(((),(),s.2,()),c2,s.1,())⟩:aZ)) 4 ([0,0,0,0],0) (λ_ s=>s.1.length=4/\s.2.toNat<=1) ⟨rfl,by decide⟩ (λk s hk hs=>⟨?_,?_⟩) (λs hs=> ?_)).1
 ·obtain ⟨m,hm⟩:=this
  exact ⟨m,_,hm,rfl⟩
 ·refine (OT.ak (ag (by dsimp only;omega))).trans ((ae ?_).trans ?_)
  ·simp only [cB,Nat.add_zero,h0,h1,hs.1,aA,aI,aJ,aw]
   exact ⟨ba (by omega),ag (by omega),ba (by omega),ag (by omega),ag hs.2,ba (by omega),ag (by omega),aS (by omega)⟩
  ·simp only [OT.jb,cB,Nat.add_zero]
   rfl
 ·exact ⟨by simp only [azA,cy];exact hs.1,Lz hs.2⟩
 ·exact OT.au (bq (by dsimp only;omega))
theorem aH6 (x y:ap) (hx:x.length=4) (hy:y.length=4):lay x y 4 0=y:=VD hx hy
def aeu (_:an1):Bool:=true
def an0 (x:an1):OT Ho.Y:=.ok ⟨Zz,(((Tb x.1.1 x.1.2.1).1,(Tb x.1.1 x.1.2.1).2,()),())⟩
theorem aCd:aa aj 128 (Ho.az aeu an0):=anX aev anY aCe _ _ λx oy hp ho=>by
 rw [<-ho]
 clear ho
 obtain ⟨⟨a,b,⟨⟩⟩,⟨⟩⟩:=x
 obtain ⟨_,hw⟩:=ajA a b
 refine (ae ?_).trans ?_
 ·simp only [aA,aI,aJ,aw]
  exact ⟨rfl,rfl,rfl,rfl⟩
 ·simp only [an0,hw]
  rfl
def Hn:bx:=(Ho.az aeu an0)
theorem ajQ:aa aj 128 Hn:=aCd
theorem ajP:ax Hn:=av
def aBy:Env:=aq 128 Hn ajw
theorem S3:bU aj te aBy:=aU follows EP ajQ ajP
def Hf:af:=⟨[du,du],[],true,0,false⟩
abbrev anD:Type:=xe×Unit
def aB1:Shape:=⟨29,aBi,aiz,0,true⟩
abbrev iU:Type:=YC
def Ak:Shape:=⟨29,[ej,jP,(7,aQ)],uq,0,true⟩
abbrev uF:Type:=aio
def aB4 (a7:UInt64) (a9:Int) (c0:ap) (c1:ap) (c2:ap) (c3:ap):OT (Sum iU aZ):=
 let z0:Bool:=inB a9 4
 let z1:UInt64:=List.getD c0 (Int.toNat a9+0) (0:UInt64)
 let z2:UInt64:=List.getD c1 (Int.toNat a9+0) (0:UInt64)
 (.br (decide (a9<(4:Int)))
 (gd [z0,decide (Int.toNat a9+0<List.length c0),z0,decide (Int.toNat a9+0<List.length c1),Ew ((z1,z2,a7,()),()),z0,decide (Int.toNat a9+0<List.length c3),inR (a9+(1:Int))] (.ok (.inl (((),(),(),(),aah z1 z2 a7,a9+(1:Int),()),c0,c1,c2,List.set c3 (Int.toNat a9+0) (rF z1 z2 a7),()))))
 (.ok (.inr ⟨(.exit 0,Ak),(((),(),a7,()),c2,c3,())⟩)))
def Pv (s:iU):OT (Sum iU aZ):=aB4 s.1.2.2.2.2.1 s.1.2.2.2.2.2.1 s.2.1 s.2.2.1 s.2.2.2.1 s.2.2.2.2.1
def anB (g0_0:iU->uF) (s:iU):OT aZ:=(.ok ⟨(.exit 0,Ak),g0_0 s⟩)
def Zt:aL:=⟨[du,rA],[],false⟩
section
variable (ok0:iU->Bool) (g0_0:iU->uF)
def azJ (a0:ab) (a1:ab):OT Hf.Y:=
 let z0:iU:=(((),(),(),(),(0:UInt64),(0:Int),()),[a0.w0,a0.w1,a0.w2,a0.w3],[a1.w0,a1.w1,a1.w2,a1.w3],[(0:UInt64),(0:UInt64),(0:UInt64),(0:UInt64)],[(0:UInt64),(0:UInt64),(0:UInt64),(0:UInt64)],())
 let z1:uF:=g0_0 z0
 let z2:=z1.snd
 let z3:=z2.snd.fst
 let z4:=z2.fst
 let z5:ap:=lay z4 z3 4 (0:UInt64)
 (gd [ok0 z0,decide (4<=List.length z3),decide ((4/1:Nat)+0<=List.length z4),decide (4<=List.length z5)] (.ok ⟨Zt,(({w0:=List.getD z5 0 0,w1:=List.getD z5 1 0,w2:=List.getD z5 2 0,w3:=List.getD z5 3 0},!z1.fst.snd.snd.fst==(0:UInt64),()),())⟩))
theorem anz (h0:bh Pv ok0 (anB g0_0)) (pre:anD->Bool) (F:anD->OT Hf.Y) (hF:∀ (x:anD) oy,pre x=true->(F x).run=some oy->(azJ ok0 g0_0 x.1.1 x.1.2.1).run=some oy):aa aj 118 (Hf.az pre F):=
 dh S3 118 Tryz.f118 Hf [Zt] (kZ S3 0 aB1 [(0,Ak)] none none Pv bE h0 bE) (λx=>azJ ok0 g0_0 x.1.1 x.1.2.1) hF
end
def awx (a b:ap) (k:Nat) (s:FL):FL:=(s.1.set k (rF (a.getD k 0) (b.getD k 0) s.2),aah (a.getD k 0) (b.getD k 0) s.2)
def aem (s:iU):Bool:=decide (s.1.2.2.2.2.1=0/\s.1.2.2.2.2.2.1=0/\s.2.1.length=4/\s.2.2.1.length=4/\s.2.2.2.2.1= [0,0,0,0])
def anA (s:iU):uF:=(((),(),(upto (awx s.2.1 s.2.2.1) ([0,0,0,0],0) 4).2,()),s.2.2.2.1,(upto (awx s.2.1 s.2.2.1) ([0,0,0,0],0) 4).1,())
theorem aB3:bh Pv aem (anB anA):=by
 rintro ⟨⟨⟨⟩,⟨⟩,⟨⟩,⟨⟩,c,i,⟨⟩⟩,⟨c0,c1,c2,c3,⟨⟩⟩⟩ h
 have h':=bn h
 dsimp only at h'
 obtain ⟨rfl,rfl,h0,h1,rfl⟩:=h'
 have:=(bf (T:=Pv) (λk s=>((((),(),(),(),s.2,(k:Int),()),c0,c1,c2,s.1,()):iU)) (awx c0 c1)
  (λs=>(⟨(.exit 0,Ak),(((),(),s.2,()),c2,s.1,())⟩:aZ)) 4 ([0,0,0,0],0) (λ_ s=>s.1.length=4/\s.2.toNat<=1) ⟨rfl,by decide⟩ (λk s hk hs=>⟨?_,?_⟩) (λs hs=> ?_)).1
 ·obtain ⟨m,hm⟩:=this
  exact ⟨m,_,hm,rfl⟩
 ·refine (OT.ak (ag (by dsimp only;omega))).trans ((ae ?_).trans ?_)
  ·simp only [cB,Nat.add_zero,h0,h1,hs.1,aA,aI,aJ,aw]
   exact ⟨ba (by omega),ag (by omega),ba (by omega),ag (by omega),ag hs.2,ba (by omega),ag (by omega),aS (by omega)⟩
  ·simp only [OT.jb,cB,Nat.add_zero]
   rfl
 ·exact ⟨by simp only [awx,cy];exact hs.1,HU⟩
 ·exact OT.au (bq (by dsimp only;omega))
def ael (_:anD):Bool:=true
def anC (x:anD):OT Hf.Y:=.ok ⟨Zt,(((m5 x.1.1 x.1.2.1).1,(m5 x.1.1 x.1.2.1).2,()),())⟩
theorem aB2:aa aj 118 (Hf.az ael anC):=anz aem anA aB3 _ _ λx oy hp ho=>by
 rw [<-ho]
 clear ho
 obtain ⟨⟨a,b,⟨⟩⟩,⟨⟩⟩:=x
 obtain ⟨_,hw⟩:=ajL a b
 refine (ae ?_).trans ?_
 ·simp only [aA,aI,aJ,aw]
  exact ⟨rfl,rfl,rfl,rfl⟩
 ·simp only [anC,hw]
  rfl
def He:bx:=(Hf.az ael anC)
theorem ajC:aa aj 118 He:=aB2
theorem ajB:ax He:=av
def aBv:Env:=aq 118 He aBy
theorem aiG:bU aj te aBv:=aU follows S3 ajC ajB
def xo:af:=⟨[du,du],[],true,0,false⟩
abbrev Tn:Type:=xe×Unit
def Pz:aL:=⟨n9,[],false⟩
def anO (a0:ab) (a1:ab):OT xo.Y:=
 (.ok ⟨Pz,(((m5 a0 a1).snd,()),())⟩)
theorem ajK (pre:Tn->Bool) (F:Tn->OT xo.Y) (hF:∀ (x:Tn) oy,pre x=true->(F x).run=some oy->(anO x.1.1 x.1.2.1).run=some oy):aa aj 112 (xo.az pre F):=
 dh aiG 112 Tryz.f112 xo [Pz] bE (λx=>anO x.1.1 x.1.2.1) hF
def Tl (_:Tn):Bool:=true
def anP (x:Tn):OT xo.Y:=.ok ⟨Pz,((Nat.blt x.1.1.nat x.1.2.1.nat,()),())⟩
theorem avD:aa aj 112 (xo.az Tl anP):=ajK _ _ λx oy _ ho=>ho
def CJ:bx:=(xo.az Tl anP)
theorem Zy:aa aj 112 CJ:=avD
theorem Zx:ax CJ:=av
def auB:Env:=aq 112 CJ aBv
theorem YM:bU aj te auB:=aU follows aiG Zy Zx
def ET:af:=⟨kT,[],true,0,false⟩
abbrev anW:Type:=aik
def CM:aL:=⟨n9,[],false⟩
def azO (a0:ab) (a1:Int):OT ET.Y:=
 let z0:Int:=Int.tdiv a1 (64:Int)
 let z1:Int:=Int.tmod a1 (64:Int)
 (.br (decide ((0:Int)<=a1))
 (.br (decide (a1<(256:Int)))
  (gd [true&&inR z0,inB z0 4,decide (Int.toNat z0+0<4),decide ((0:Int)<=z1)] (.ok ⟨CM,((bC (List.getD [a0.w0,a0.w1,a0.w2,a0.w3] (Int.toNat z0+0) (0:UInt64)) z1&&&(1:UInt64)==(1:UInt64),()),())⟩))
  (.ok ⟨CM,((false,()),())⟩))
 (.ok ⟨CM,((false,()),())⟩))
theorem anV (pre:anW->Bool) (F:anW->OT ET.Y) (hF:∀ (x:anW) oy,pre x=true->(F x).run=some oy->(azO x.1.1 x.1.2.1).run=some oy):aa aj 169 (ET.az pre F):=
 dh YM 169 Tryz.f169 ET [CM] bE (λx=>azO x.1.1 x.1.2.1) hF
def rl (a:ab) (i:Int):Bool:=cond (decide (0<=i)) (cond (decide (i<256)) (avt a.nat i.toNat) false) false
def aes (_:anW):Bool:=true
def azP (x:anW):OT ET.Y:=.ok ⟨CM,((rl x.1.1 x.1.2.1,()),())⟩
theorem atM {a:ab} {i:Int} (h1:0<=i) (h2:i<256):(bC (List.getD [a.w0,a.w1,a.w2,a.w3] (Int.toNat (Int.tdiv i 64)+0) 0) (Int.tmod i 64)&&&1==1)=rl a i:=by
 obtain ⟨n,rfl⟩:∃ n:Nat,i=(n:Int):=⟨i.toNat,by omega⟩
 have hn:n<256:=by omega
 have t1:Int.tdiv (n:Int) 64=((n/64:Nat):Int):=by rw [Int.tdiv_eq_ediv_of_nonneg (by omega)];omega
 have t2:Int.tmod (n:Int) 64=((n%64:Nat):Int):=by rw [Int.tmod_eq_emod_of_nonneg (by omega)];omega
 rw [t1,t2,atO,iy _ _ (by omega),cB,Nat.add_zero]
 have:=ah5 (a:=a) (q:=n/64) (r:=n%64) (by omega) (by omega)
 rw [show 64*(n/64)+n%64=n by omega] at this
 unfold rl avt
 rw [ag h1,ag h2,cB]
 simp only [aK]
 rw [<-this]
 rfl
theorem aCb:aa aj 169 (ET.az aes azP):=anV _ _ λx oy _ ho=>by
 rw [<-ho]
 clear ho
 obtain ⟨⟨a,i,⟨⟩⟩,⟨⟩⟩:=x
 show _=(OT.ok ⟨CM,((rl a i,()),())⟩:OT ET.Y).run
 by_cases h1:0<=i
 ·refine (OT.ak (ag h1)).trans ?_
  by_cases h2:i<256
  ·refine (OT.ak (ag h2)).trans ((ae ?_).trans ?_)
   ·obtain ⟨n,rfl⟩:∃ n:Nat,i=(n:Int):=⟨i.toNat,by omega⟩
    have t1:Int.tdiv (n:Int) 64=((n/64:Nat):Int):=by rw [Int.tdiv_eq_ediv_of_nonneg (by omega)];omega
    have t2:Int.tmod (n:Int) 64=((n%64:Nat):Int):=by rw [Int.tmod_eq_emod_of_nonneg (by omega)];omega
    simp only [t1,t2,cB,Nat.add_zero,aA,aI,aJ,aw,Bool.true_and]
    exact ⟨aS (by omega),ba (by omega),ag (by omega),ag (by omega)⟩
   ·simp only [atM h1 h2]
  ·have e:rl a i=false:=by unfold rl;rw [ag h1,bq h2];rfl
   rw [e]
   exact OT.au (bq h2)
 ·have e:rl a i=false:=by unfold rl;rw [bq h1];rfl
  rw [e]
  exact OT.au (bq h1)
def Hm:bx:=(ET.az aes azP)
theorem ajN:aa aj 169 Hm:=aCb
theorem ajM:ax Hm:=av
def aBx:Env:=aq 169 Hm auB
theorem S2:bU aj te aBx:=aU follows YM ajN ajM
theorem Gt (x b:UInt64) (hb:b.toNat<=1):2*x.toNat+b.toNat=(cC x 1|||b).toNat+18446744073709551616*(bC x 63).toNat:=by
 have hx:=x.toNat_lt
 have e1:(cC x 1).toNat=2^1*(x.toNat%9223372036854775808):=by
  have e:(cC x 1).toNat=x.toNat*2^1%2^64:=sa x 1 (by omega)
  rw [e]
  omega
 have e2:(bC x 63).toNat=x.toNat/2^63:=iy x 63 (by omega)
 have e3:=Nat.two_pow_add_eq_or_of_lt (i:=1) (b:=b.toNat) (by omega) (x.toNat%9223372036854775808)
 rw [UInt64.toNat_or,e1,<-e3,e2]
 omega
theorem P7 (x:UInt64):(bC x 63).toNat<=1:=by
 have hx:=x.toNat_lt
 have e2:(bC x 63).toNat=x.toNat/2^63:=iy x 63 (by omega)
 rw [e2]
 omega
def dm (a:ab) (b:UInt64):ab×UInt64:=(⟨cC a.w0 1|||b,cC a.w1 1|||bC a.w0 63,cC a.w2 1|||bC a.w1 63,cC a.w3 1|||bC a.w2 63⟩,bC a.w3 63)
theorem aks (a:ab) (b:UInt64) (hb:b.toNat<=1):2*a.nat+b.toNat=(dm a b).1.nat+115792089237316195423570985008687907853269984665640564039457584007913129639936*(dm a b).2.toNat:=by
 have h0:=Gt a.w0 b hb
 have h1:=Gt a.w1 _ (P7 a.w0)
 have h2:=Gt a.w2 _ (P7 a.w1)
 have h3:=Gt a.w3 _ (P7 a.w2)
 unfold dm Sx.ab.nat
 dsimp only
 omega
def aph (m r:ab) (b:UInt64):ab:=cond (!((dm r b).2==0)) (m5 (dm r b).1 m).1 (cond (!(m5 (dm r b).1 m).2) (m5 (dm r b).1 m).1 (dm r b).1)
theorem agq {n m:Nat} (h1:m<=n) (h2:n<2*m):n-m=n%m:=by
 rw [Nat.mod_eq_sub_mod h1,bm (by omega)]
theorem awN {m r:ab} {b:UInt64} (hb:b.toNat<=1) (hr:r.nat<m.nat):(aph m r b).nat=(2*r.nat+b.toNat)%m.nat:=by
 have h:=aks r b hb
 have hm:=jj m
 have hs:=jj (dm r b).1
 have h2:(dm r b).2.toNat<=1:=P7 _
 have hw:(m5 (dm r b).1 m).1.nat=((dm r b).1.nat+115792089237316195423570985008687907853269984665640564039457584007913129639936-m.nat)%115792089237316195423570985008687907853269984665640564039457584007913129639936:=by
  unfold m5
  exact QB _
 unfold aph
 cases ho:(dm r b).2==0
 ·have ho:(dm r b).2.toNat=1:=by
   have:(dm r b).2.toNat≠0:=λe=>by
    have e':(dm r b).2=0:=UInt64.toNat_inj.1 e
    rw [e'] at ho
    cases ho
   omega
  show (m5 (dm r b).1 m).1.nat=_
  rw [hw,<-agq (n:=2*r.nat+b.toNat) (by omega) (by omega),bm (by omega)]
  omega
 ·have ho:(dm r b).2.toNat=0:=by
   rw [beq_iff_eq] at ho
   rw [ho]
   rfl
  have e:2*r.nat+b.toNat=(dm r b).1.nat:=by omega
  cases hu:(m5 (dm r b).1 m).2
  ·have hu':m.nat<=(dm r b).1.nat:=by
    rw [aer] at hu
    exact Nat.le_of_not_lt λh'=>by rw [(Nat.blt_eq ..).mpr h'] at hu;cases hu
   show (m5 (dm r b).1 m).1.nat=_
   rw [Ao hu',e,agq hu' (by omega)]
  ·have hu':(dm r b).1.nat<m.nat:=by
    rw [aer] at hu
    exact (Nat.blt_eq ..).mp hu
   show (dm r b).1.nat=_
   rw [e,bm hu']
def MA (a:ab) (i:Nat):UInt64:=bC ((lst a).getD (i/64) 0) ((i%64:Nat):Int)&&&1
theorem aza (a:ab) {i:Nat} (hi:i<256):(MA a i).toNat=a.nat/2^i%2:=by
 have e:∀ x:UInt64,(x&&&1).toNat=x.toNat%2:=λx=>by
  rw [UInt64.toNat_and]
  exact Nat.and_two_pow_sub_one_eq_mod x.toNat 1
 unfold MA
 rw [e,iy _ _ (by omega),ah5 (by omega) (by omega),show 64*(i/64)+i%64=i by omega]
def avl (m a r:ab):Nat->ab:=upto (λk r=>aph m r (MA a (255-k))) r
theorem Qb {m a r:ab} (hr:r.nat<m.nat):∀ k,k<=256->(avl m a r k).nat=(r.nat*2^k+a.nat/2^(256-k))%m.nat/\(avl m a r k).nat<m.nat
 |0,_=>by
  have h:=jj a
  refine ⟨?_,hr⟩
  show r.nat=_
  rw [Nat.pow_zero,Nat.mul_one,Nat.div_eq_of_lt h,Nat.add_zero,bm hr]
 |k+1,hk=>by
  obtain ⟨h1,h2⟩:=Qb (a:=a) hr k (by omega)
  have hb:=aza a (i:=255-k) (by omega)
  have hb1:(MA a (255-k)).toNat<=1:=by omega
  have h3:=awN hb1 h2
  have e:(avl m a r (k+1)).nat=(2*(avl m a r k).nat+(MA a (255-k)).toNat)%m.nat:=h3
  have e2:a.nat/2^(255-k)=2*(a.nat/2^(256-k))+(MA a (255-k)).toNat:=by
   rw [hb,show 256-k=255-k+1 by omega,Nat.pow_succ,<-Nat.div_div_eq_div_mul]
   omega
  refine ⟨?_,?_⟩
  ·rw [e,h1,show 256-(k+1)=255-k by omega,e2,Nat.pow_succ]
   rw [<-Nat.mod_add_mod,Nat.mul_mod_mod,Nat.mod_add_mod]
   congr 1
   rw [Nat.mul_add,<-Nat.mul_assoc,Nat.mul_comm (2^k) 2,<-Nat.mul_assoc,Nat.mul_comm r.nat 2,Nat.add_assoc]
  ·rw [e]
   exact Nat.mod_lt _ (by omega)
def aEY (lo hi m:ab):ab:=ofN ((lo.nat+115792089237316195423570985008687907853269984665640564039457584007913129639936*hi.nat)%m.nat)
theorem awP {m lo hi:ab} (hm:0<m.nat):avl m lo (avl m hi ⟨0,0,0,0⟩ 256) 256=aEY lo hi m:=by
 have h0:(⟨0,0,0,0⟩:ab).nat<m.nat:=hm
 obtain ⟨h1,h2⟩:=Qb (a:=hi) h0 256 (Nat.le_refl _)
 obtain ⟨h3,h4⟩:=Qb (a:=lo) h2 256 (Nat.le_refl _)
 have hl:=jj m
 refine gF ?_
 unfold aEY
 rw [h3,h1,n7 (Nat.lt_trans (Nat.mod_lt _ hm) hl),show 256-256=0 from rfl,Nat.pow_zero,Nat.div_one,Nat.div_one,show (⟨0,0,0,0⟩:ab).nat=0 from rfl,Nat.zero_mul,Nat.zero_add,<-Nat.mod_add_mod,Nat.mod_mul_mod,Nat.mod_add_mod,Nat.mul_comm,Nat.add_comm]
def o8:af:=⟨[du,aQ],[],true,0,false⟩
abbrev Hh:Type:=(ab×mV)×Unit
def anE:Shape:=⟨25,[(1,aQ),Cj,(4,im),xf],uq,0,true⟩
abbrev ff:Type:=(UInt64×mW)×zV
def o7:Shape:=⟨25,[(1,aQ),Cj,(4,im)],uq,0,true⟩
abbrev m8:Type:=(UInt64×mX)×zV
def anH (a1:UInt64) (a7:Int) (c0:ap) (c1:ap):OT (Sum ff aZ):=
 let z0:Bool:=inB a7 4
 let z1:Bool:=decide (Int.toNat a7+0<List.length c0)
 let z2:UInt64:=List.getD c0 (Int.toNat a7+0) (0:UInt64)
 (.br (decide (a7<(4:Int)))
 (gd [z0,z1,z0,z1,z0,z1,inR (a7+(1:Int))] (.ok (.inl ((bC z2 (63:Int),(),(),a7+(1:Int),()),List.set c0 (Int.toNat a7+0) (cC z2 (1:Int)|||a1),c1,()))))
 (.ok (.inr ⟨(.exit 0,o7),((a1,(),(),()),c0,c1,())⟩)))
def Al (s:ff):OT (Sum ff aZ):=anH s.1.1 s.1.2.2.2.1 s.2.1 s.2.2.1
def Ti (g0_0:ff->m8) (s:ff):OT aZ:=(.ok ⟨(.exit 0,o7),g0_0 s⟩)
def Hg:aL:=⟨[du,aQ],[],false⟩
section
variable (ok0:ff->Bool) (g0_0:ff->m8)
def aen (a0:ab) (a1:UInt64):OT o8.Y:=
 let z0:ff:=((a1,(),(),(0:Int),()),[a0.w0,a0.w1,a0.w2,a0.w3],[(0:UInt64),(0:UInt64),(0:UInt64),(0:UInt64)],())
 let z1:m8:=g0_0 z0
 let z2:=z1.snd
 let z3:=z2.fst
 let z4:=z2.snd.fst
 let z5:ap:=lay z4 z3 4 (0:UInt64)
 (gd [ok0 z0,decide (4<=List.length z3),decide ((4/1:Nat)+0<=List.length z4),decide (4<=List.length z5)] (.ok ⟨Hg,(({w0:=List.getD z5 0 0,w1:=List.getD z5 1 0,w2:=List.getD z5 2 0,w3:=List.getD z5 3 0},z1.fst.fst,()),())⟩))
theorem Zu (h0:bh Al ok0 (Ti g0_0)) (pre:Hh->Bool) (F:Hh->OT o8.Y) (hF:∀ (x:Hh) oy,pre x=true->(F x).run=some oy->(aen ok0 g0_0 x.1.1 x.1.2.1).run=some oy):aa aj 184 (o8.az pre F):=
 dh S2 184 Tryz.f184 o8 [Hg] (kZ S2 0 anE [(0,o7)] none none Al bE h0 bE) (λx=>aen ok0 g0_0 x.1.1 x.1.2.1) hF
end
def aG8 (k:Nat) (s:FL):FL:=(s.1.set k (cC (s.1.getD k 0) 1|||s.2),bC (s.1.getD k 0) 63)
def ML (s:ff):Bool:=decide (s.1.2.2.2.1=0/\s.2.1.length=4)
def Th (s:ff):m8:=(((upto aG8 (s.2.1,s.1.1) 4).2,(),(),()),(upto aG8 (s.2.1,s.1.1) 4).1,s.2.2.1,())
theorem anG:bh Al ML (Ti Th):=by
 rintro ⟨⟨b,⟨⟩,⟨⟩,i,⟨⟩⟩,⟨a,r,⟨⟩⟩⟩ h
 have h':=bn h
 dsimp only at h'
 obtain ⟨rfl,hl⟩:=h'
 have:=(bf (T:=Al) (λk s=>(((s.2,(),(),(k:Int),()),s.1,r,()):ff)) aG8
  (λs=>(⟨(.exit 0,o7),((s.2,(),(),()),s.1,r,())⟩:aZ)) 4 (a,b) (λ_ s=>s.1.length=4) hl (λk s hk hs=>⟨?_,(cy ..).trans hs⟩) (λs hs=> ?_)).1
 ·obtain ⟨m,hm⟩:=this
  exact ⟨m,_,hm,rfl⟩
 ·refine (OT.ak (ag (by dsimp only;omega))).trans ((ae ?_).trans ?_)
  ·simp only [cB,Nat.add_zero,hs,aA,aI,aJ,aw]
   exact ⟨ba (by omega),ag (by omega),ba (by omega),ag (by omega),ba (by omega),ag (by omega),aS (by omega)⟩
  ·simp only [OT.jb,cB,Nat.add_zero]
   rfl
 ·exact OT.au (bq (by dsimp only;omega))
def MK (_:Hh):Bool:=true
def aeo (x:Hh):OT o8.Y:=.ok ⟨Hg,(((dm x.1.1 x.1.2.1).1,(dm x.1.1 x.1.2.1).2,()),())⟩
theorem anF:aa aj 184 (o8.az MK aeo):=Zu ML Th anG _ _ λx oy hp ho=>by
 rw [<-ho]
 clear ho
 obtain ⟨⟨a,b,⟨⟩⟩,⟨⟩⟩:=x
 refine (ae ?_).trans rfl
 simp only [aA,aI,aJ,aw]
 exact ⟨rfl,rfl,rfl,rfl⟩
def xl:bx:=(o8.az MK aeo)
theorem Tg:aa aj 184 xl:=anF
theorem Tf:ax xl:=av
def aiH:Env:=aq 184 xl aBx
theorem EF:bU aj te aiH:=aU follows S2 Tg Tf
def EQ:af:=⟨[du,du,du],[],true,0,false⟩
abbrev anL:Type:=(ab×xe)×Unit
def aB5:Shape:=⟨57,[(5,eT),jP,FO,(10,gn),(11,aD),(21,.val true (.arr 2 .elem)),(22,aD)],aiz,0,true⟩
abbrev gl:Type:=(Unit×Unit×Unit×Unit×Int×aB×eS)×oY
def Am:Shape:=⟨57,[(5,eT),jP,FO,(21,.val true (.arr 2 .elem)),(22,aD)],aix,0,true⟩
abbrev uG:Type:=(Unit×Unit×Unit×aB×eS)×oX
def Zw (a11:Int) (a21:aB) (a22:Int) (c0:ap) (c1:ap) (c2:ap) (c3:ap):OT (Sum gl aZ):=
 let z0:Nat:=List.length c2
 let z1:Int:=Int.tdiv a11 (64:Int)
 let z2:Int:=Int.tmod a11 (64:Int)
 let z3:ab×UInt64:=dm {w0:=List.getD c2 0 0,w1:=List.getD c2 1 0,w2:=List.getD c2 2 0,w3:=List.getD c2 3 0} (bC (List.getD c3 (Int.toNat z1+0) (0:UInt64)) z2&&&(1:UInt64))
 let z4:=z3.fst
 let z5:ap:=List.set (List.set (List.set (List.set c2 0 z4.w0) 1 z4.w1) 2 z4.w2) 3 z4.w3
 let z6:Nat:=List.length z5
 let z7:Bool:=decide ((4/1:Nat)+0<=z6)
 let z8:Bool:=inR (a11-(1:Int))
 let z9:ab:= {w0:=0,w1:=0,w2:=0,w3:=0}
 let z10:ab×Bool:=m5 {w0:=List.getD z5 0 0,w1:=List.getD z5 1 0,w2:=List.getD z5 2 0,w3:=List.getD z5 3 0} {w0:=List.getD c0 0 0,w1:=List.getD c0 1 0,w2:=List.getD c0 2 0,w3:=List.getD c0 3 0}
 let z11:=z10.fst
 let z12:ap:=List.set (List.set (List.set (List.set z5 0 z11.w0) 1 z11.w1) 2 z11.w2) 3 z11.w3
 (.br (decide ((0:Int)<=a11))
 (gd [decide (4<=z0),true&&inR z1,inB z1 4,decide (Int.toNat z1+0<List.length c3),decide ((0:Int)<=z2),decide ((4/1:Nat)+0<=z0),decide (4<=z6),decide (4<=List.length c0)] (.br (!z3.snd==(0:UInt64))
  (gd [z7,z8] (.ok (.inl (((),(),(),(),a11-(1:Int),[List.getD a21 0 z9,List.getD a21 1 z9],a22,()),c0,c1,z12,c3,()))))
  (.br (!z10.snd)
   (gd [z7,z8] (.ok (.inl (((),(),(),(),a11-(1:Int),[List.getD a21 0 z9,List.getD a21 1 z9],a22,()),c0,c1,z12,c3,()))))
   (gd [z8] (.ok (.inl (((),(),(),(),a11-(1:Int),[List.getD a21 0 z9,List.getD a21 1 z9],a22,()),c0,c1,z5,c3,())))))))
 (.ok (.inr ⟨(.exit 2,Am),(((),(),(),[List.getD a21 0 z9,List.getD a21 1 z9],a22,()),c0,c1,c2,())⟩)))
def Px (s:gl):OT (Sum gl aZ):=Zw s.1.2.2.2.2.1 s.1.2.2.2.2.2.1 s.1.2.2.2.2.2.2.1 s.2.1 s.2.2.1 s.2.2.2.1 s.2.2.2.2.1
def anJ (g2_2:gl->uG) (s:gl):OT aZ:=(.ok ⟨(.exit 2,Am),(((g2_2 s).1.1,(g2_2 s).1.2.1,(g2_2 s).1.2.2.1,s.1.2.2.2.2.2.1,s.1.2.2.2.2.2.2.1,()),(g2_2 s).2)⟩)
def CE:aL:=⟨kT,[],false⟩
section
variable (ok2:gl->Bool) (g2_2:gl->uG)
def Tj (a0:ab) (a1:ab) (a2:ab):OT EQ.Y:=
 let z0:gl:=(((),(),(),(),(255:Int),[a1,a0],(0:Int),()),[a2.w0,a2.w1,a2.w2,a2.w3],[(0:UInt64),(0:UInt64),(0:UInt64),(0:UInt64)],[(0:UInt64),(0:UInt64),(0:UInt64),(0:UInt64)],[a1.w0,a1.w1,a1.w2,a1.w3],())
 let z1:=(g2_2 z0).snd
 let z2:=z1.snd
 let z3:gl:=(((),(),(),(),(255:Int),[a1,a0],(0:Int)+(1:Int),()),z1.fst,z2.fst,z2.snd.fst,[a0.w0,a0.w1,a0.w2,a0.w3],())
 let z4:=(g2_2 z3).snd.snd
 let z5:=z4.snd.fst
 let z6:=z4.fst
 let z7:ap:=lay z6 z5 4 (0:UInt64)
 (.br (a2.w0==(0:UInt64)&&(a2.w1==(0:UInt64)&&(a2.w2==(0:UInt64)&&(a2.w3==(0:UInt64)&&true))))
 (.ok ⟨CE,(({w0:=0,w1:=0,w2:=0,w3:=0},(10:Int),()),())⟩)
 (gd [ok2 z0,ok2 z3,decide (4<=List.length z5),decide ((4/1:Nat)+0<=List.length z6),decide (4<=List.length z7)] (.ok ⟨CE,(({w0:=List.getD z7 0 0,w1:=List.getD z7 1 0,w2:=List.getD z7 2 0,w3:=List.getD z7 3 0},(0:Int),()),())⟩)))
theorem anI (h2:bh Px ok2 (anJ g2_2)) (pre:anL->Bool) (F:anL->OT EQ.Y) (hF:∀ (x:anL) oy,pre x=true->(F x).run=some oy->(Tj ok2 g2_2 x.1.1 x.1.2.1 x.1.2.2.1).run=some oy):aa aj 163 (EQ.az pre F):=
 dh EF 163 Tryz.f163 EQ [CE] (kZ EF 2 aB5 [(2,Am)] none none Px bE h2 bE) (λx=>Tj ok2 g2_2 x.1.1 x.1.2.1 x.1.2.2.1) hF
end
def Pw (s:gl):Bool:=decide (s.1.2.2.2.2.1=255/\s.1.2.2.2.2.2.1.length=2/\s.2.1.length=4/\s.2.2.2.1.length=4/\s.2.2.2.2.1.length=4)
def Zv (s:gl):uG:=(((),(),(),s.1.2.2.2.2.2.1,s.1.2.2.2.2.2.2.1,()),s.2.1,s.2.2.1,lst (avl (elemOf s.2.1) (elemOf s.2.2.2.2.1) (elemOf s.2.2.2.1) 256),())
theorem aHe (i:Nat):Int.tdiv (i:Int) 64=((i/64:Nat):Int):=by rw [Int.tdiv_eq_ediv_of_nonneg (by omega)];omega
theorem aHf (i:Nat):Int.tmod (i:Int) 64=((i%64:Nat):Int):=by rw [Int.tmod_eq_emod_of_nonneg (by omega)];omega
theorem aB7:bh Px Pw (anJ Zv):=by
 rintro ⟨⟨⟨⟩,⟨⟩,⟨⟩,⟨⟩,i,arr,j,⟨⟩⟩,⟨c0,c1,c2,c3,⟨⟩⟩⟩ h
 have h':=bn h
 dsimp only at h'
 obtain ⟨rfl,ha,h0,h2,h3⟩:=h'
 obtain ⟨x,y,rfl⟩:∃ x y,arr= [x,y]:=by
  match arr,ha with
  | [x,y],_=>exact ⟨x,y,rfl⟩
 obtain ⟨m,rfl⟩:∃ a,c0=lst a:=⟨elemOf c0,(cN h0).symm⟩
 obtain ⟨r,rfl⟩:∃ a,c2=lst a:=⟨elemOf c2,(cN h2).symm⟩
 obtain ⟨t,rfl⟩:∃ a,c3=lst a:=⟨elemOf c3,(cN h3).symm⟩
 have:=(bf (T:=Px) (λk r=>((((),(),(),(),(255:Int)-(k:Int),[x,y],j,()),lst m,c1,lst r,lst t,()):gl)) (λk r=>aph m r (MA t (255-k)))
  (λr=>(⟨(.exit 2,Am),(((),(),(),[x,y],j,()),lst m,c1,lst r,())⟩:aZ)) 256 r (λ_ _=>True) trivial (λk r hk _=>⟨?_,trivial⟩) (λr _=> ?_)).1
 ·obtain ⟨n,hn⟩:=this
  exact ⟨n,_,hn,rfl⟩
 ·have e0:(255:Int)-(k:Int)=((255-k:Nat):Int):=by omega
  have e1:(255:Int)-((k+1:Nat):Int)=((255-k:Nat):Int)-1:=by omega
  have hb:bC ((lst t).getD ((255-k)/64) 0) (((255-k)%64:Nat):Int)&&&1=MA t (255-k):=rfl
  rw [e1,e0]
  show (Zw ((255-k:Nat):Int) [x,y] j (lst m) c1 (lst r) (lst t)).run=some (.inl (((),(),(),(),((255-k:Nat):Int)-1,[x,y],j,()),lst m,c1,lst (aph m r (MA t (255-k))),lst t,()))
  unfold Zw
  simp only [aHe,aHf,cB,Nat.add_zero,hb]
  refine (OT.ak (ag (by omega))).trans ((ae ?_).trans ?_)
  ·simp only [aA,aI,aJ,Bool.true_and,aw]
   have hl:∀ a:ab,(lst a).length=4:=λ_=>rfl
   exact ⟨rfl,aS (by omega),ba (by omega),ag (by rw [hl];omega),ag (by omega),rfl,rfl,rfl⟩
  ·have hr:inR (((255-k:Nat):Int)-1)=true:=aS (by omega)
   rcases (b9 ((dm r (MA t (255-k))).2==0)).symm with g|g
   ·have e:aph m r (MA t (255-k))=(m5 (dm r (MA t (255-k))).1 m).1:=by unfold aph;rw [g];rfl
    rw [e]
    exact (OT.ak (b:= !((dm r (MA t (255-k))).2==0)) (by rw [g];rfl)).trans ((ae (by rw [hr];rfl)).trans rfl)
   ·refine (OT.au (b:= !((dm r (MA t (255-k))).2==0)) (by rw [g];rfl)).trans ?_
    rcases (b9 (m5 (dm r (MA t (255-k))).1 m).2).symm with u|u
    ·have e:aph m r (MA t (255-k))=(m5 (dm r (MA t (255-k))).1 m).1:=by unfold aph;rw [g,u];rfl
     rw [e]
     exact (OT.ak (b:= !(m5 (dm r (MA t (255-k))).1 m).2) (by rw [u];rfl)).trans ((ae (by rw [hr];rfl)).trans rfl)
    ·have e:aph m r (MA t (255-k))=(dm r (MA t (255-k))).1:=by unfold aph;rw [g,u];rfl
     rw [e]
     exact (OT.au (b:= !(m5 (dm r (MA t (255-k))).1 m).2) (by rw [u];rfl)).trans ((ae (by rw [hr];rfl)).trans rfl)
 ·exact OT.au (bq (by dsimp only;omega))
def aep (_:anL):Bool:=true
def Fg (m:ab):Bool:=m.w0==0&&(m.w1==0&&(m.w2==0&&(m.w3==0&&true)))
def azK (x:anL):OT EQ.Y:=.br (Fg x.1.2.2.1) (.ok ⟨CE,((⟨0,0,0,0⟩,(10:Int),()),())⟩) (.ok ⟨CE,((aEY x.1.1 x.1.2.1 x.1.2.2.1,(0:Int),()),())⟩)
theorem alc {m:ab} (h:Fg m=false):0<m.nat:=by
 refine Nat.pos_of_ne_zero λe=> ?_
 have e2:m=⟨0,0,0,0⟩:=gF e
 rw [e2] at h
 cases h
theorem anK {ok2:gl->Bool} {g2:gl->uG} {a b m H R:ab} (h:Fg m=false)
 (h1:ok2 (((),(),(),(),255,[b,a],0,()),lst m,lst ⟨0,0,0,0⟩,lst ⟨0,0,0,0⟩,lst b,())=true)
 (e1:(g2 (((),(),(),(),255,[b,a],0,()),lst m,lst ⟨0,0,0,0⟩,lst ⟨0,0,0,0⟩,lst b,())).2=(lst m,lst ⟨0,0,0,0⟩,lst H,()))
 (h2:ok2 (((),(),(),(),255,[b,a],0+1,()),lst m,lst ⟨0,0,0,0⟩,lst H,lst a,())=true)
 (e2:(g2 (((),(),(),(),255,[b,a],0+1,()),lst m,lst ⟨0,0,0,0⟩,lst H,lst a,())).2=(lst m,lst ⟨0,0,0,0⟩,lst R,())):
 (Tj ok2 g2 a b m).run=some ⟨CE,((R,(0:Int),()),())⟩:=by
 have l:∀ e:ab,lst e= [e.w0,e.w1,e.w2,e.w3]:=λ_=>rfl
 rw [l m,l ⟨0,0,0,0⟩] at h1 e1 h2 e2
 rw [l b] at h1 e1
 rw [l a] at h2 e2
 unfold Tj
 simp only [e1,h1,e2,h2]
 exact (OT.au h).trans ((ae rfl).trans rfl)
theorem aB6:aa aj 163 (EQ.az aep azK):=anI Pw Zv aB7 _ _ λx oy hp ho=>by
 rw [<-ho]
 clear ho
 obtain ⟨⟨a,b,m,⟨⟩⟩,⟨⟩⟩:=x
 show (Tj Pw Zv a b m).run=(OT.br (Fg m) _ _:OT EQ.Y).run
 rcases (b9 (Fg m)).symm with h|h
 ·refine Eq.trans (anK (H:=avl m b ⟨0,0,0,0⟩ 256) (R:=avl m a (avl m b ⟨0,0,0,0⟩ 256) 256) h rfl rfl rfl rfl) ?_
  rw [awP (alc h)]
  rw [h]
  rfl
 ·exact (OT.ak h).trans (OT.ak (b:=Fg m) h).symm
def Hi:bx:=(EQ.az aep azK)
theorem ajE:aa aj 163 Hi:=aB6
theorem ajD:ax Hi:=av
def aBw:Env:=aq 163 Hi aiH
theorem aiI:bU aj te aBw:=aU follows EF ajE ajD
def acF:af:=⟨jG,[],true,0,false⟩
abbrev aF9:Type:=oW
def Fw:aL:=⟨[OW,aD],[],false⟩
def aF7 (a0:Int):OT acF.Y:=
 let z0:ab:= {w0:=0,w1:=0,w2:=0,w3:=0}
 let z1:UInt64×ab:=((0:UInt64),z0)
 (.br (a0==(0:Int))
 (.ok ⟨Fw,((({w0:=16513537,w1:=0,w2:=0,w3:=0},(9:Int),(16513537:UInt64),z1),(0:Int),()),())⟩)
 (.br (a0==(1:Int))
  (.ok ⟨Fw,((({w0:=16521217,w1:=0,w2:=0,w3:=0},(11:Int),(16521217:UInt64),z1),(0:Int),()),())⟩)
  (.br (a0==(2:Int))
   (.ok ⟨Fw,((({w0:=11037532056220336129,w1:=2469829653914515739,w2:=0,w3:=4611686018427387904},(32:Int),(0:UInt64),(11037532056220336127:UInt64),{w0:=10122100416058490895,w1:=15551789045973377255,w2:=8617542898466512152,w3:=679271340751763220}),(0:Int),()),())⟩)
   (.br (a0==(3:Int))
    (.ok ⟨Fw,((({w0:=10108024940646105089,w1:=2469829653919213789,w2:=0,w3:=4611686018427387904},(32:Int),(0:UInt64),(10108024940646105087:UInt64),{w0:=18200867980676431887,w1:=7474641938123724515,w2:=9200329640471491984,w3:=679271340771891881}),(0:Int),()),())⟩)
    (.ok ⟨Fw,(((z0,(0:Int),(0:UInt64),z1),(20:Int),()),())⟩)))))
theorem ayl (pre:aF9->Bool) (F:aF9->OT acF.Y) (hF:∀ (x:aF9) oy,pre x=true->(F x).run=some oy->(aF7 x.1.1).run=some oy):aa aj 82 (acF.az pre F):=
 dh aiI 82 Tryz.f82 acF [Fw] bE (λx=>aF7 x.1.1) hF
abbrev MH:Type:=iR
def aFM:MH:=(⟨0,0,0,0⟩,0,0,0,⟨0,0,0,0⟩)
def numOf:Nat->MH
 |0=>(⟨16513537,0,0,0⟩,9,16513537,0,⟨0,0,0,0⟩)
 |1=>(⟨16521217,0,0,0⟩,11,16521217,0,⟨0,0,0,0⟩)
 |2=>(⟨11037532056220336129,2469829653914515739,0,4611686018427387904⟩,32,0,11037532056220336127,⟨10122100416058490895,15551789045973377255,8617542898466512152,679271340751763220⟩)
 |3=>(⟨10108024940646105089,2469829653919213789,0,4611686018427387904⟩,32,0,10108024940646105087,⟨18200867980676431887,7474641938123724515,9200329640471491984,679271340771891881⟩)
 |_=>aFM
def ac (s:Int):Bool:=decide (0<=s)&&decide (s<4)
theorem cb {s:Int} (h:ac s=true):s=0\/s=1\/s=2\/s=3:=by
 simp only [ac,aw,decide_eq_true_eq] at h
 omega
theorem MW {s:Int} (h:ac s=false):(s==0)=false/\(s==1)=false/\(s==2)=false/\(s==3)=false:=by
 have hn:∀ k:Int,0<=k->k<4->(s==k)=false:=λk h0 h1=>by
  cases hb:s==k
  ·rfl
  ·have:s=k:=by simpa using hb
   subst this
   simp only [ac,ag h0,ag h1,Bool.and_self] at h
   cases h
 exact ⟨hn 0 (by decide) (by decide),hn 1 (by decide) (by decide),hn 2 (by decide) (by decide),hn 3 (by decide) (by decide)⟩
def arR (_:aF9):Bool:=true
def aF8 (x:aF9):OT acF.Y:=.br (ac x.1.1) (.ok ⟨Fw,((numOf x.1.1.toNat,(0:Int),()),())⟩) (.ok ⟨Fw,((aFM,(20:Int),()),())⟩)
theorem aF6:aa aj 82 (acF.az arR aF8):=ayl _ _ λx oy _ ho=>by
 rw [<-ho]
 clear ho
 obtain ⟨⟨s,⟨⟩⟩,⟨⟩⟩:=x
 cases hs:ac s
 ·obtain ⟨h0,h1,h2,h3⟩:=MW hs
  exact (OT.au h0).trans ((OT.au h1).trans ((OT.au h2).trans ((OT.au h3).trans (OT.au (b:=ac s) hs).symm)))
 ·rcases cb hs with h|h|h|h
  all_goals
   have h:s=_:=h
   subst h
   rfl
def RM:bx:=(acF.az arR aF8)
theorem arS:aa aj 82 RM:=aF6
theorem arQ:ax RM:=av
def aGF:Env:=aq 82 RM aBw
theorem auZ:bU aj te aGF:=aU follows aiI arS arQ
def Kq:af:=⟨jG,[],true,0,false⟩
abbrev ar5:Type:=oW
def Ko:aL:=⟨kT,[],false⟩
def aAF (a0:Int):OT Kq.Y:=
 (.br (ac a0)
 (.ok ⟨Ko,(((numOf (Int.toNat a0)).fst,(0:Int),()),())⟩)
 (.ok ⟨Ko,(({w0:=0,w1:=0,w2:=0,w3:=0},(20:Int),()),())⟩))
theorem ar4 (pre:ar5->Bool) (F:ar5->OT Kq.Y) (hF:∀ (x:ar5) oy,pre x=true->(F x).run=some oy->(aAF x.1.1).run=some oy):aa aj 77 (Kq.az pre F):=
 dh auZ 77 Tryz.f77 Kq [Ko] bE (λx=>aAF x.1.1) hF
def ahe (_:ar5):Bool:=true
def aAG (x:ar5):OT Kq.Y:=.br (ac x.1.1) (.ok ⟨Ko,(((numOf x.1.1.toNat).1,(0:Int),()),())⟩) (.ok ⟨Ko,((⟨0,0,0,0⟩,(20:Int),()),())⟩)
theorem aD1:aa aj 77 (Kq.az ahe aAG):=ar4 _ _ λx oy _ ho=>ho
def Kn:bx:=(Kq.az ahe aAG)
theorem amm:aa aj 77 Kn:=aD1
theorem aml:ax Kn:=av
def aBO:Env:=aq 77 Kn aGF
theorem Hc:bU aj te aBO:=aU follows auZ amm aml
def BG:af:=⟨[OW,du],[],true,0,false⟩
abbrev arM:Type:=(iR×oV)×Unit
def aDT:Shape:=⟨53,[Cj,(3,im),(4,fV),(5,aQ),(6,aD)],aed,0,true⟩
abbrev jt:Type:=air×MF×zV
def BF:Shape:=⟨53,[ej,(5,aQ)],[iE],0,true⟩
abbrev vI:Type:=(Unit×mV)×ul
def aDY (a5:UInt64) (a6:Int) (c0_0:UInt64) (c0_1:UInt64) (c0_2:UInt64) (c0_3:UInt64) (c0_4:Int) (c0_5:UInt64) (c0_6:UInt64) (c0_7:UInt64) (c0_8:UInt64) (c0_9:UInt64) (c0_10:UInt64) (c1:ap) (c2:ap):OT (Sum jt aZ):=
 let z0:UInt64:=List.getD c1 (Int.toNat a6+0) (0:UInt64)
 (.br (decide ((0:Int)<=a6))
 (gd [inB a6 4,decide (Int.toNat a6+0<List.length c1),v8 ((a5,z0,c0_5,()),()),inR (a6-(1:Int))] (.ok (.inl (((),(),(),adn a5 z0 c0_5,a6-(1:Int),()),(c0_0,c0_1,c0_2,c0_3,c0_4,c0_5,c0_6,c0_7,c0_8,c0_9,c0_10,()),c1,c2,()))))
 (.ok (.inr ⟨(.exit 0,BF),(((),a5,()),c2,())⟩)))
def RK (s:jt):OT (Sum jt aZ):=aDY s.1.2.2.2.1 s.1.2.2.2.2.1 s.2.1.1 s.2.1.2.1 s.2.1.2.2.1 s.2.1.2.2.2.1 s.2.1.2.2.2.2.1 s.2.1.2.2.2.2.2.1 s.2.1.2.2.2.2.2.2.1 s.2.1.2.2.2.2.2.2.2.1 s.2.1.2.2.2.2.2.2.2.2.1 s.2.1.2.2.2.2.2.2.2.2.2.1 s.2.1.2.2.2.2.2.2.2.2.2.2.1 s.2.2.1 s.2.2.2.1
def arL (g0_0:jt->vI) (s:jt):OT aZ:=(.ok ⟨(.exit 0,BF),g0_0 s⟩)
def aDS:Shape:=⟨53,[Cj,(3,im),(4,fV)],aed,0,true⟩
abbrev js:Type:=nO×MF×zV
def tD:Shape:=⟨53,[ej],[iE],0,true⟩
abbrev D0:Type:=b8×ul
def aDX (c0_0:UInt64) (c0_1:UInt64) (c0_2:UInt64) (c0_3:UInt64) (c0_4:Int) (c0_5:UInt64) (c0_6:UInt64) (c0_7:UInt64) (c0_8:UInt64) (c0_9:UInt64) (c0_10:UInt64) (c1:ap) (c2:ap):OT (Sum js aZ):=
 let z0:Nat:=List.length c1
 let z1:Bool:=decide (4<=z0)
 let z2:ab×Bool:=m5 {w0:=List.getD c1 0 0,w1:=List.getD c1 1 0,w2:=List.getD c1 2 0,w3:=List.getD c1 3 0} {w0:=c0_0,w1:=c0_1,w2:=c0_2,w3:=c0_3}
 let z3:=z2.fst
 (gd [z1] (.br (z2.snd)
 (gd [z1,decide ((4/1:Nat)+0<=List.length c2)] (.ok (.inr ⟨(.ret,tD),(((),()),lay c2 c1 4 (0:UInt64),())⟩)))
 (gd [decide ((4/1:Nat)+0<=z0)] (.ok (.inl (((),(),(),()),(c0_0,c0_1,c0_2,c0_3,c0_4,c0_5,c0_6,c0_7,c0_8,c0_9,c0_10,()),List.set (List.set (List.set (List.set c1 0 z3.w0) 1 z3.w1) 2 z3.w2) 3 z3.w3,c2,()))))))
def RJ (s:js):OT (Sum js aZ):=aDX s.2.1.1 s.2.1.2.1 s.2.1.2.2.1 s.2.1.2.2.2.1 s.2.1.2.2.2.2.1 s.2.1.2.2.2.2.2.1 s.2.1.2.2.2.2.2.2.1 s.2.1.2.2.2.2.2.2.2.1 s.2.1.2.2.2.2.2.2.2.2.1 s.2.1.2.2.2.2.2.2.2.2.2.1 s.2.1.2.2.2.2.2.2.2.2.2.2.1 s.2.2.1 s.2.2.2.1
def arK (g2_r:js->D0) (s:js):OT aZ:=(.ok ⟨(.ret,tD),g2_r s⟩)
def qs:aL:=⟨il,[],false⟩
section
variable (ok0:jt->Bool) (g0_0:jt->vI) (ok2:js->Bool) (g2_r:js->D0)
def N5 (a0:iR) (a1:ab):OT BG.Y:=
 let z0:Bool:= !a0.snd.snd.fst==(0:UInt64)
 let z1:(UInt64×UInt64×UInt64×UInt64×Int×aBa)×ap×ap×PUnit:=((a0.fst.w0,a0.fst.w1,a0.fst.w2,a0.fst.w3,a0.snd.fst,a0.snd.snd.fst,a0.snd.snd.snd.fst,a0.snd.snd.snd.snd.w0,a0.snd.snd.snd.snd.w1,a0.snd.snd.snd.snd.w2,a0.snd.snd.snd.snd.w3,()),[a1.w0,a1.w1,a1.w2,a1.w3],[(0:UInt64),(0:UInt64),(0:UInt64),(0:UInt64)],())
 let z2:jt:=(((),(),(),(0:UInt64),(3:Int),()),z1)
 let z3:vI:=g0_0 z2
 let z4:=z3.snd.fst
 let z5:ap:=List.set (List.set (List.set (List.set z4 0 z3.fst.snd.fst) 1 (0:UInt64)) 2 (0:UInt64)) 3 (0:UInt64)
 let z6:js:=(((),(),(),()),z1)
 let z7:=(g2_r z6).snd.fst
 (.br (z0)
 (.br (a1.w1|||a1.w2|||a1.w3==(0:UInt64))
  (gd [z0] (.ok ⟨qs,(({w0:=a1.w0%a0.snd.snd.fst,w1:=0,w2:=0,w3:=0},()),())⟩))
  (gd [ok0 z2,decide ((4/1:Nat)+0<=List.length z4),decide (4<=List.length z5)] (.ok ⟨qs,(({w0:=List.getD z5 0 0,w1:=List.getD z5 1 0,w2:=List.getD z5 2 0,w3:=List.getD z5 3 0},()),())⟩)))
 (gd [ok2 z6,decide (4<=List.length z7)] (.ok ⟨qs,(({w0:=List.getD z7 0 0,w1:=List.getD z7 1 0,w2:=List.getD z7 2 0,w3:=List.getD z7 3 0},()),())⟩)))
theorem arJ (h0:bh RK ok0 (arL g0_0)) (h2:bh RJ ok2 (arK g2_r)) (pre:arM->Bool) (F:arM->OT BG.Y) (hF:∀ (x:arM) oy,pre x=true->(F x).run=some oy->(N5 ok0 g0_0 ok2 g2_r x.1.1 x.1.2.1).run=some oy):aa aj 117 (BG.az pre F):=
 dh Hc 117 Tryz.f117 BG [qs] (kZ Hc 2 aDS [] (some tD) none RJ bE h2 (kZ Hc 0 aDT [(0,BF)] none none RK bE h0 bE)) (λx=>N5 ok0 g0_0 ok2 g2_r x.1.1 x.1.2.1) hF
end
def lf (n:MH):Bool:=decide (n=numOf 0)||(decide (n=numOf 1)||(decide (n=numOf 2)||decide (n=numOf 3)))
theorem yn {n:MH} (h:lf n=true):n=numOf 0\/n=numOf 1\/n=numOf 2\/n=numOf 3:=by
 simpa [lf] using h
theorem ji {s:Int} (h:ac s=true):lf (numOf s.toNat)=true:=by
 rcases cb h with rfl|rfl|rfl|rfl<;>decide+kernel
def aHg (c:ap) (m:UInt64):UInt64:=upto (λk r=>adn r (c.getD (3-k) 0) m) 0 4
theorem AJ {m:UInt64} (h:jm m=true):0<m.toNat:=by
 rcases ic h with rfl|rfl<;>decide
theorem awO {a:ab} {m:UInt64} (h:jm m=true):aHg (lst a) m=UInt64.ofNat (a.nat%m.toNat):=by
 have hm:=AJ h
 rw [<-rB,dv,bm (b:=2^64) (Nat.lt_trans (Nat.mod_lt _ hm) m.toNat_lt)]
 show (adn (adn (adn (adn 0 a.w3 m) a.w2 m) a.w1 m) a.w0 m).toNat=_
 rw [BV hm,BV hm,BV hm,BV hm,QQ _ a.w2.toNat,QQ _ a.w1.toNat,QQ _ a.w0.toNat,show (0:UInt64).toNat=0 from rfl]
 congr 1
 unfold Sx.ab.nat
 omega
def BE (s:jt):Bool:=decide (s.1.2.2.2.1=0/\s.1.2.2.2.2.1=3/\s.2.2.1.length=4)&&jm s.2.1.2.2.2.2.2.1
def RI (s:jt):vI:=(((),aHg s.2.2.1 s.2.1.2.2.2.2.2.1,()),s.2.2.2.1,())
theorem aDW:bh RK BE (arL RI):=by
 rintro ⟨⟨⟨⟩,⟨⟩,⟨⟩,r,i,⟨⟩⟩,⟨⟨x0,x1,x2,x3,x4,sm,x6,x7,x8,x9,x10,⟨⟩⟩,c1,c2,⟨⟩⟩⟩ h
 simp only [BE,aw,decide_eq_true_eq] at h
 obtain ⟨⟨rfl,rfl,hl⟩,hs⟩:=h
 have hm:=AJ hs
 have:=(bf (T:=RK) (λk r=>((((),(),(),r,3-(k:Int),()),(x0,x1,x2,x3,x4,sm,x6,x7,x8,x9,x10,()),c1,c2,()):jt)) (λk r=>adn r (c1.getD (3-k) 0) sm)
  (λr=>(⟨(.exit 0,BF),(((),r,()),c2,())⟩:aZ)) 4 0 (λ_ r=>r.toNat<sm.toNat) hm (λk r hk hr=>⟨?_,?_⟩) (λr hr=> ?_)).1
 ·obtain ⟨m,hm⟩:=this
  exact ⟨m,_,hm,rfl⟩
 ·have e1:(3-(k:Int)).toNat=3-k:=by omega
  have e2:(3:Int)-(k:Int)-1=3-((k+1:Nat):Int):=by omega
  refine (OT.ak (ag (by dsimp only;omega))).trans ((ae ?_).trans ?_)
  ·simp only [e1,Nat.add_zero,hl,aA,aI,aJ,aw]
   refine ⟨ba (by omega),ag (by omega),?_,aS (by omega)⟩
   simp only [v8,aw]
   exact ⟨hs,ag (UInt64.lt_iff_toNat_lt.2 hr)⟩
  ·simp only [OT.jb,e1,e2,Nat.add_zero]
 ·rw [BV hm]
  exact Nat.mod_lt _ hm
 ·exact OT.au (bq (by dsimp only;omega))
def aHN (s:js):ab:=⟨s.2.1.1,s.2.1.2.1,s.2.1.2.2.1,s.2.1.2.2.2.1⟩
def GX (s:js):Bool:=decide (s.2.2.1.length=4/\s.2.2.2.1.length=4/\0<(aHN s).nat)
def RH (s:js):D0:=(((),()),lst (ofN ((elemOf s.2.2.1).nat%(aHN s).nat)),())
theorem al9 {x0 x1 x2 x3 x5 x6 x7 x8 x9 x10:UInt64} {x4:Int} {c2:List UInt64} (hc:c2.length=4) (hm:0<(ab.mk x0 x1 x2 x3).nat):∀ (n:Nat) (a:ab),a.nat=n->
 ∃ m,cU RJ m (((),(),(),()),(x0,x1,x2,x3,x4,x5,x6,x7,x8,x9,x10,()),lst a,c2,())=some ⟨(.ret,tD),(((),()),lst (ofN (a.nat%(ab.mk x0 x1 x2 x3).nat)),())⟩:=by
 intro n
 induction n using Nat.strongRecOn with
 |_ n ih=>
  intro a hn
  cases hb:Nat.blt a.nat (ab.mk x0 x1 x2 x3).nat
  ·have hle:(ab.mk x0 x1 x2 x3).nat<=a.nat:=by
    rcases Nat.lt_or_ge a.nat (ab.mk x0 x1 x2 x3).nat with h|h
    ·have:Nat.blt a.nat (ab.mk x0 x1 x2 x3).nat=true:=jR h
     rw [this] at hb;cases hb
    ·exact h
   have hd:=Ao hle
   obtain ⟨m,hm2⟩:=ih (a.nat-(ab.mk x0 x1 x2 x3).nat) (by omega) (m5 a ⟨x0,x1,x2,x3⟩).1 hd
   rw [hd,<-Nat.mod_eq_sub_mod hle] at hm2
   refine ⟨m+1,bL ?_ hm2⟩
   refine (ae ?_).trans ((OT.au hb).trans ((ae ?_).trans rfl))
   ·rfl
   ·rfl
  ·have hlt:=dI hb
   rw [bm hlt,A5]
   refine ⟨1,aV ?_⟩
   refine (ae ?_).trans ((OT.ak hb).trans ((ae ?_).trans ?_))
   ·rfl
   ·simp only [hc,aA,aI,aJ,aw]
    exact ⟨rfl,rfl⟩
   ·show some (Sum.inr (⟨(.ret,tD),(((),()),lay c2 (lst a) 4 0,())⟩:aZ))=_
    rw [VD hc (NF a)]
theorem aDV:bh RJ GX (arK RH):=by
 rintro ⟨⟨⟨⟩,⟨⟩,⟨⟩,⟨⟩⟩,⟨⟨x0,x1,x2,x3,x4,x5,x6,x7,x8,x9,x10,⟨⟩⟩,c1,c2,⟨⟩⟩⟩ h
 have h':=bn h
 dsimp only [aHN] at h'
 obtain ⟨h1,h2,h3⟩:=h'
 obtain ⟨m,hm⟩:=al9 (x4:=x4) (x5:=x5) (x6:=x6) (x7:=x7) (x8:=x8) (x9:=x9) (x10:=x10) h2 h3 _ (elemOf c1) rfl
 rw [cN h1] at hm
 exact ⟨m,_,hm,rfl⟩
def ii (x:arM):Bool:=lf x.1.1
def aAz (x:arM):OT BG.Y:=.ok ⟨qs,((ofN (x.1.2.1.nat%x.1.1.1.nat),()),())⟩
theorem Vk {n:Nat} (h:n<18446744073709551616):ofN n=⟨UInt64.ofNat n,0,0,0⟩:=by
 refine apY (k:=0) ?_
 rw [dv,bm (by omega)]
 simp
theorem Kh {n:MH} {a:ab} {m:UInt64} (h1:n.1=⟨m,0,0,0⟩) (h2:n.2.2.1=m) (hs:jm m=true):(N5 BE RI GX RH n a).run=some ⟨qs,((ofN (a.nat%n.1.nat),()),())⟩:=by
 have hm:=AJ hs
 have hn:n.1.nat=m.toNat:=by rw [h1];show m.toNat+_*(0+_*(0+_*0))=_;omega
 have hz:(!(n.2.2.1==0))=true:=by
  rw [h2]
  rcases ic hs with rfl|rfl<;>rfl
 have hlt:a.nat%m.toNat<18446744073709551616:=Nat.lt_trans (Nat.mod_lt _ hm) m.toNat_lt
 rw [hn,Vk hlt]
 unfold N5
 refine (OT.ak hz).trans ?_
 cases hb:(a.w1|||a.w2|||a.w3==0)
 ·refine (OT.au rfl).trans ((ae ?_).trans ?_)
  ·simp only [aA,aI,aJ,aw]
   refine ⟨?_,rfl,rfl⟩
   show (decide _&&jm n.2.2.1)=true
   rw [h2,hs,aJ]
   exact ag ⟨rfl,rfl,rfl⟩
  ·show some (⟨qs,((⟨aHg (lst a) n.2.2.1,0,0,0⟩,()),())⟩:BG.Y)=_
   rw [h2,awO hs]
 ·refine (OT.ak rfl).trans ((ae ?_).trans ?_)
  ·simp only [hz,aA,aI,aJ]
  ·have hw:a.w1=0/\a.w2=0/\a.w3=0:=by
    have:a.w1|||a.w2|||a.w3=0:=by simpa using hb
    simpa [UInt64.or_eq_zero_iff,and_assoc] using this
   have ha:a.nat=a.w0.toNat:=by
    unfold Sx.ab.nat
    rw [hw.1,hw.2.1,hw.2.2]
    show _+_*(0+_*(0+_*0))=_
    omega
   show some (⟨qs,((⟨a.w0%n.2.2.1,0,0,0⟩,()),())⟩:BG.Y)=_
   have e:a.w0%n.2.2.1=UInt64.ofNat (a.nat%m.toNat):=by
    rw [h2,ha,<-rB,UInt64.toNat_mod,dv]
    exact (bm (by rw [<-ha];omega)).symm
   rw [e]
theorem N4 {n:MH} {a:ab} (h2:n.2.2.1=0) (hs:0<n.1.nat):(N5 BE RI GX RH n a).run=some ⟨qs,((ofN (a.nat%n.1.nat),()),())⟩:=by
 unfold N5
 refine (OT.au (by rw [h2];rfl)).trans ((ae ?_).trans ?_)
 ·simp only [aA,aI,aJ,aw]
  exact ⟨ag ⟨rfl,rfl,hs⟩,rfl⟩
 ·rfl
theorem aIe:0<(numOf 2).1.nat:=by decide+kernel
theorem aId:0<(numOf 3).1.nat:=by decide+kernel
theorem aDU:aa aj 117 (BG.az ii aAz):=arJ BE RI GX RH aDW aDV _ _ λx oy hp ho=>by
 rw [<-ho]
 clear ho
 obtain ⟨⟨n,a,⟨⟩⟩,⟨⟩⟩:=x
 have hp':lf n=true:=hp
 rcases yn hp' with rfl|rfl|rfl|rfl
 ·exact Kh (m:=16513537) rfl rfl rfl
 ·exact Kh (m:=16521217) rfl rfl rfl
 ·exact N4 rfl aIe
 ·exact N4 rfl aId
def Kg:bx:=(BG.az ii aAz)
theorem ama:aa aj 117 Kg:=aDU
theorem al8:ax Kg:=av
def aBL:Env:=aq 117 Kg aBO
theorem ai9:bU aj te aBL:=aU follows Hc ama al8
def zq:af:=⟨[OW,du,du],[],true,0,false⟩
abbrev Xc:Type:=(iR×xe)×Unit
def R0:aL:=⟨il,[],false⟩
def aso (a0:iR) (a1:ab) (a2:ab):OT zq.Y:=
 let z0:Nat:=ab.nat a0.fst
 let z1:ab:=(Tb (ofN (ab.nat a1%z0)) (ofN (ab.nat a2%z0))).fst
 (gd [ii ((a0,a1,()),()),ii ((a0,a2,()),()),ii ((a0,z1,()),())] (.ok ⟨R0,((ofN (ab.nat z1%z0),()),())⟩))
theorem amC (pre:Xc->Bool) (F:Xc->OT zq.Y) (hF:∀ (x:Xc) oy,pre x=true->(F x).run=some oy->(aso x.1.1 x.1.2.1 x.1.2.2.1).run=some oy):aa aj 83 (zq.az pre F):=
 dh ai9 83 Tryz.f83 zq [R0] bE (λx=>aso x.1.1 x.1.2.1 x.1.2.2.1) hF
theorem A7 {n:MH} (h:lf n=true):0<n.1.nat/\n.1.nat<57896044618658097711785492504343953926634992332820282019728792003956564819968:=by
 rcases yn h with rfl|rfl|rfl|rfl
 ·exact ⟨by decide+kernel,by decide+kernel⟩
 ·exact ⟨by decide+kernel,by decide+kernel⟩
 ·exact ⟨by decide+kernel,by decide+kernel⟩
 ·exact ⟨by decide+kernel,by decide+kernel⟩
def pS (s:Int):Nat:=(numOf s.toNat).1.nat
theorem eK {s:Int} (h:ac s=true):0<pS s/\pS s<57896044618658097711785492504343953926634992332820282019728792003956564819968:=A7 (ji h)
def dr (p:Nat) (a b:ab):ab:=ofN ((a.nat+b.nat)%p)
def kW (p:Nat) (a:ab):ab:=ofN ((p-a.nat%p)%p)
def aR (p:Nat) (a b:ab):ab:=ofN (a.nat*b.nat%p)
theorem cr {p n:Nat} (h:0<p/\p<57896044618658097711785492504343953926634992332820282019728792003956564819968):(ofN (n%p)).nat=n%p:=by
 have:=Nat.mod_lt n h.1
 exact n7 (by omega)
theorem aER {p:Nat} (h:0<p/\p<57896044618658097711785492504343953926634992332820282019728792003956564819968) (a b:ab):ofN ((Tb (ofN (a.nat%p)) (ofN (b.nat%p))).1.nat%p)=dr p a b:=by
 have ha:=Nat.mod_lt a.nat h.1
 have hb:=Nat.mod_lt b.nat h.1
 have e:(Tb (ofN (a.nat%p)) (ofN (b.nat%p))).1.nat=a.nat%p+b.nat%p:=by
  show (ofN _).nat=_
  rw [cr h,cr h]
  exact n7 (by omega)
 unfold dr
 rw [e,<-Nat.add_mod]
def KA (x:Xc):Bool:=lf x.1.1
def adb (x:Xc):OT zq.Y:=.ok ⟨R0,((dr x.1.1.1.nat x.1.2.1 x.1.2.2.1,()),())⟩
theorem ayB:aa aj 83 (zq.az KA adb):=amC _ _ λx oy hp ho=>by
 rw [<-ho]
 clear ho
 obtain ⟨⟨n,a,b,⟨⟩⟩,⟨⟩⟩:=x
 have hp':lf n=true:=hp
 refine (ae ?_).trans ?_
 ·simp only [aA,aI,aJ,aw]
  exact ⟨hp',hp',hp'⟩
 ·simp only [adb,aER (A7 hp')]
def Eg:bx:=(zq.az KA adb)
theorem ada:aa aj 83 Eg:=ayB
theorem ac9:ax Eg:=av
def avc:Env:=aq 83 Eg aBL
theorem Zh:bU aj te avc:=aU follows ai9 ada ac9
def zn:af:=⟨[OW,du],[],true,0,false⟩
abbrev WW:Type:=(iR×oV)×Unit
def RP:aL:=⟨il,[],false⟩
def arX (a0:iR) (a1:ab):OT zn.Y:=
 let z0:Nat:=ab.nat a0.fst
 let z1:ab:=(m5 a0.fst (ofN (ab.nat a1%z0))).fst
 (gd [ii ((a0,a1,()),()),ii ((a0,z1,()),())] (.ok ⟨RP,((ofN (ab.nat z1%z0),()),())⟩))
theorem amh (pre:WW->Bool) (F:WW->OT zn.Y) (hF:∀ (x:WW) oy,pre x=true->(F x).run=some oy->(arX x.1.1 x.1.2.1).run=some oy):aa aj 116 (zn.az pre F):=
 dh Zh 116 Tryz.f116 zn [RP] bE (λx=>arX x.1.1 x.1.2.1) hF
theorem aDs {m:ab} (h:0<m.nat/\m.nat<57896044618658097711785492504343953926634992332820282019728792003956564819968) (a:ab):ofN ((m5 m (ofN (a.nat%m.nat))).1.nat%m.nat)=kW m.nat a:=by
 have ha:=Nat.mod_lt a.nat h.1
 have e:=cr (n:=a.nat) h
 have e2:(m5 m (ofN (a.nat%m.nat))).1.nat=m.nat-a.nat%m.nat:=by
  rw [Ao (by rw [e];omega),e]
 unfold kW
 rw [e2]
def BM (x:WW):Bool:=lf x.1.1
def acL (x:WW):OT zn.Y:=.ok ⟨RP,((kW x.1.1.1.nat x.1.2.1,()),())⟩
theorem ayn:aa aj 116 (zn.az BM acL):=amh _ _ λx oy hp ho=>by
 rw [<-ho]
 clear ho
 obtain ⟨⟨n,a,⟨⟩⟩,⟨⟩⟩:=x
 have hp':lf n=true:=hp
 refine (ae ?_).trans ?_
 ·simp only [aA,aI,aJ,aw]
  exact ⟨hp',hp'⟩
 ·simp only [acL,aDs (A7 hp')]
def D3:bx:=(zn.az BM acL)
theorem acK:aa aj 116 D3:=ayn
theorem acJ:ax D3:=av
def au2:Env:=aq 116 D3 avc
theorem Zc:bU aj te au2:=aU follows Zh acK acJ
def wY:af:=⟨LM,[],true,0,false⟩
abbrev ac8:Type:=LG
def Ef:aL:=⟨il,[],false⟩
def aAL (a0:Int) (a1:ab) (a2:ab):OT wY.Y:=
 let z0:iR:=numOf (Int.toNat a0)
 (.br (ac a0)
 (gd [KA ((z0,a1,a2,()),())] (.ok ⟨Ef,((dr (ab.nat z0.fst) a1 a2,()),())⟩))
 (.ok ⟨Ef,(({w0:=0,w1:=0,w2:=0,w3:=0},()),())⟩))
theorem asn (pre:ac8->Bool) (F:ac8->OT wY.Y) (hF:∀ (x:ac8) oy,pre x=true->(F x).run=some oy->(aAL x.1.1 x.1.2.1 x.1.2.2.1).run=some oy):aa aj 29 (wY.az pre F):=
 dh Zc 29 Tryz.f29 wY [Ef] bE (λx=>aAL x.1.1 x.1.2.1 x.1.2.2.1) hF
def ahl (_:ac8):Bool:=true
def aAM (x:ac8):OT wY.Y:=.br (ac x.1.1) (.ok ⟨Ef,((dr (pS x.1.1) x.1.2.1 x.1.2.2.1,()),())⟩) (.ok ⟨Ef,((⟨0,0,0,0⟩,()),())⟩)
theorem asm:aa aj 29 (wY.az ahl aAM):=asn _ _ λx oy hp ho=>by
 rw [<-ho]
 clear ho
 obtain ⟨⟨s,a,b,⟨⟩⟩,⟨⟩⟩:=x
 cases hs:ac s
 ·exact (OT.au hs).trans (OT.au (b:=ac s) hs).symm
 ·refine (OT.ak hs).trans ((ae ?_).trans (OT.ak (b:=ac s) hs).symm)
  simp only [aA,aI,aJ]
  exact ji hs
def Kz:bx:=(wY.az ahl aAM)
theorem amB:aa aj 29 Kz:=asm
theorem amA:ax Kz:=av
def aBR:Env:=aq 29 Kz au2
theorem aje:bU aj te aBR:=aU follows Zc amB amA
def wU:af:=⟨[aD,du],[],true,0,false⟩
abbrev acI:Type:=aij
def D2:aL:=⟨il,[],false⟩
def aAA (a0:Int) (a1:ab):OT wU.Y:=
 let z0:iR:=numOf (Int.toNat a0)
 (.br (ac a0)
 (gd [BM ((z0,a1,()),())] (.ok ⟨D2,((kW (ab.nat z0.fst) a1,()),())⟩))
 (.ok ⟨D2,(({w0:=0,w1:=0,w2:=0,w3:=0},()),())⟩))
theorem arW (pre:acI->Bool) (F:acI->OT wU.Y) (hF:∀ (x:acI) oy,pre x=true->(F x).run=some oy->(aAA x.1.1 x.1.2.1).run=some oy):aa aj 67 (wU.az pre F):=
 dh aje 67 Tryz.f67 wU [D2] bE (λx=>aAA x.1.1 x.1.2.1) hF
def ahb (_:acI):Bool:=true
def aAB (x:acI):OT wU.Y:=.br (ac x.1.1) (.ok ⟨D2,((kW (pS x.1.1) x.1.2.1,()),())⟩) (.ok ⟨D2,((⟨0,0,0,0⟩,()),())⟩)
theorem arV:aa aj 67 (wU.az ahb aAB):=arW _ _ λx oy hp ho=>by
 rw [<-ho]
 clear ho
 obtain ⟨⟨s,a,⟨⟩⟩,⟨⟩⟩:=x
 cases hs:ac s
 ·exact (OT.au hs).trans (OT.au (b:=ac s) hs).symm
 ·refine (OT.ak hs).trans ((ae ?_).trans (OT.ak (b:=ac s) hs).symm)
  simp only [aA,aI,aJ]
  exact ji hs
def Kk:bx:=(wU.az ahb aAB)
theorem amg:aa aj 67 Kk:=arV
theorem amf:ax Kk:=av
def aBM:Env:=aq 67 Kk aBR
theorem aja:bU aj te aBM:=aU follows aje amg amf
def wT:af:=⟨LM,[],true,0,false⟩
abbrev acy:Type:=LG
def tq:aL:=⟨il,[],false⟩
def aAx (a0:Int) (a1:ab) (a2:ab):OT wT.Y:=
 let z0:Bool:=ac a0
 let z1:Nat:=pS a0
 let z2:ab:= {w0:=0,w1:=0,w2:=0,w3:=0}
 (.br (z0)
 (.br (z0)
  (.ok ⟨tq,((dr z1 a1 (kW z1 a2),()),())⟩)
  (.ok ⟨tq,((z2,()),())⟩))
 (.br (z0)
  (.ok ⟨tq,((dr z1 a1 z2,()),())⟩)
  (.ok ⟨tq,((z2,()),())⟩)))
theorem arF (pre:acy->Bool) (F:acy->OT wT.Y) (hF:∀ (x:acy) oy,pre x=true->(F x).run=some oy->(aAx x.1.1 x.1.2.1 x.1.2.2.1).run=some oy):aa aj 91 (wT.az pre F):=
 dh aja 91 Tryz.f91 wT [tq] bE (λx=>aAx x.1.1 x.1.2.1 x.1.2.2.1) hF
def iq (p:Nat) (a b:ab):ab:=dr p a (kW p b)
def ag3 (_:acy):Bool:=true
def aAy (x:acy):OT wT.Y:=.br (ac x.1.1) (.ok ⟨tq,((iq (pS x.1.1) x.1.2.1 x.1.2.2.1,()),())⟩) (.ok ⟨tq,((⟨0,0,0,0⟩,()),())⟩)
theorem arE:aa aj 91 (wT.az ag3 aAy):=arF _ _ λx oy hp ho=>by
 rw [<-ho]
 clear ho
 obtain ⟨⟨s,a,b,⟨⟩⟩,⟨⟩⟩:=x
 cases hs:ac s
 ·exact (OT.au hs).trans ((OT.au hs).trans (OT.au (b:=ac s) hs).symm)
 ·exact (OT.ak hs).trans ((OT.ak hs).trans (OT.ak (b:=ac s) hs).symm)
def J9:bx:=(wT.az ag3 aAy)
theorem al2:aa aj 91 J9:=arE
theorem al1:ax J9:=av
def aBK:Env:=aq 91 J9 aBM
theorem S7:bU aj te aBK:=aU follows aja al2 al1
def l6 (n:Nat):List UInt64:= [UInt64.ofNat n,UInt64.ofNat (n/18446744073709551616),UInt64.ofNat (n/18446744073709551616/18446744073709551616),UInt64.ofNat (n/18446744073709551616/18446744073709551616/18446744073709551616),
 UInt64.ofNat (n/18446744073709551616/18446744073709551616/18446744073709551616/18446744073709551616),UInt64.ofNat (n/18446744073709551616/18446744073709551616/18446744073709551616/18446744073709551616/18446744073709551616)]
def v6 (l:List UInt64):Nat:=(l.getD 0 0).toNat+18446744073709551616*((l.getD 1 0).toNat+18446744073709551616*((l.getD 2 0).toNat+18446744073709551616*((l.getD 3 0).toNat+18446744073709551616*((l.getD 4 0).toNat+18446744073709551616*(l.getD 5 0).toNat))))
theorem iN {m:Nat} {x:UInt64} (hm:m%18446744073709551616=x.toNat):UInt64.ofNat m=x:=by
 rw [<-rB,dv]
 exact hm
theorem aHx {n:Nat} {a b c d e:UInt64} {k:Nat} {f:UInt64} (h:n=a.toNat+18446744073709551616*(b.toNat+18446744073709551616*(c.toNat+18446744073709551616*(d.toNat+18446744073709551616*(e.toNat+18446744073709551616*k))))) (hf:k%18446744073709551616=f.toNat):l6 n= [a,b,c,d,e,f]:=by
 obtain ⟨h1,h0⟩:=div_eq a.toNat_lt h
 obtain ⟨h2,h3⟩:=div_eq b.toNat_lt h1
 obtain ⟨h4,h5⟩:=div_eq c.toNat_lt h2
 obtain ⟨h6,h7⟩:=div_eq d.toNat_lt h4
 obtain ⟨h8,h9⟩:=div_eq e.toNat_lt h6
 unfold l6
 rw [iN (x:=a) h0,iN (x:=b) h3,iN (x:=c) h5,iN (x:=d) h7,iN (x:=e) h9,iN (x:=f) (by rw [h8];exact hf)]
theorem aqH (n:Nat):(l6 n).length=6:=rfl
def aE9 (t a x c:UInt64):UInt64:=zU t (zU (a*x) c 0) 0
def CD (t a x c:UInt64):UInt64:=avo a x+Gc (a*x) c 0+Gc t (zU (a*x) c 0) 0
theorem aES {t P p h c l k1 r k2 W:Nat} (hP:P=p+W*h) (h1:p+c=l+W*k1) (h2:t+l=r+W*k2):t+P+c=r+W*(h+k1+k2):=by
 rw [Nat.mul_add,Nat.mul_add]
 omega
theorem aui {t P c r q W:Nat} (hW:0<W) (ht:t<=W-1) (hc:c<=W-1) (hP:P<=(W-1)*(W-1)) (h:t+P+c=r+W*q):q<W:=by
 obtain ⟨V,rfl⟩:∃ V,W=V+1:=⟨W-1,by omega⟩
 rw [Nat.add_sub_cancel] at*
 refine Nat.lt_of_not_le λhq=> ?_
 have h1:(V+1)*(V+1)<=(V+1)*q:=Nat.mul_le_mul_left _ hq
 have h2:(V+1)*(V+1)=V*V+V+V+1:=by rw [Nat.add_mul,Nat.mul_add,Nat.one_mul,Nat.mul_one];omega
 omega
theorem axh (a x:UInt64):(avo a x).toNat=a.toNat*x.toNat/18446744073709551616:=by
 have ha:=a.toNat_lt
 have hx:=x.toNat_lt
 have:a.toNat*x.toNat/18446744073709551616<18446744073709551616:=by
  rw [Nat.div_lt_iff_lt_mul (by omega)]
  exact Nat.mul_lt_mul'' ha hx
 unfold avo
 rw [dv,bm this]
theorem G9 (t a x c:UInt64):t.toNat+a.toNat*x.toNat+c.toNat=(aE9 t a x c).toNat+18446744073709551616*(CD t a x c).toNat:=by
 have hP:a.toNat*x.toNat=(a*x).toNat+18446744073709551616*(avo a x).toNat:=by
  rw [axh,UInt64.toNat_mul]
  exact (Nat.mod_add_div _ _).symm
 have h1:=mS (a*x) c 0
 have h2:=mS t (zU (a*x) c 0) 0
 rw [show (0:UInt64).toNat=0 from rfl,Nat.add_zero] at h1 h2
 have key:=aES hP h1 h2
 have hb:=aui (W:=18446744073709551616) (by omega) (Nat.le_sub_one_of_lt t.toNat_lt) (Nat.le_sub_one_of_lt c.toNat_lt) (Nat.mul_le_mul (Nat.le_sub_one_of_lt a.toNat_lt) (Nat.le_sub_one_of_lt x.toNat_lt)) key
 have e:(CD t a x c).toNat=(avo a x).toNat+(Gc (a*x) c 0).toNat+(Gc t (zU (a*x) c 0) 0).toNat:=by
  unfold CD
  rw [UInt64.toNat_add,UInt64.toNat_add,Nat.mod_add_mod]
  exact bm hb
 rw [e]
 exact key
theorem Ha {t a x c s k T A R W:Nat} (h1:t+a*x+c=s+W*k) (h2:T+A*x+k=R):(t+W*T)+(a+W*A)*x+c=s+W*R:=by
 rw [Nat.add_mul,Nat.mul_assoc,<-h2,Nat.mul_add,Nat.mul_add]
 omega
def aH9 (t0 t1 t2 t3 t4 t5:UInt64) (a:ab) (x:UInt64):List UInt64:=
 let k0:=CD t0 a.w0 x 0
 let k1:=CD t1 a.w1 x k0
 let k2:=CD t2 a.w2 x k1
 let k3:=CD t3 a.w3 x k2
 [aE9 t0 a.w0 x 0,aE9 t1 a.w1 x k0,aE9 t2 a.w2 x k1,aE9 t3 a.w3 x k2,zU t4 k3 0,t5+Gc t4 k3 0]
theorem aET (t0 t1 t2 t3 t4 t5:UInt64) (a:ab) (x:UInt64):aH9 t0 t1 t2 t3 t4 t5 a x=l6 (v6 [t0,t1,t2,t3,t4,t5]+a.nat*x.toNat):=by
 have h4:=mS t4 (CD t3 a.w3 x (CD t2 a.w2 x (CD t1 a.w1 x (CD t0 a.w0 x 0)))) 0
 rw [show (0:UInt64).toNat=0 from rfl,Nat.add_zero] at h4
 have h5:(t4.toNat+18446744073709551616*t5.toNat)+0*x.toNat+(CD t3 a.w3 x (CD t2 a.w2 x (CD t1 a.w1 x (CD t0 a.w0 x 0)))).toNat=
  (zU t4 (CD t3 a.w3 x (CD t2 a.w2 x (CD t1 a.w1 x (CD t0 a.w0 x 0)))) 0).toNat+18446744073709551616*(t5.toNat+(Gc t4 (CD t3 a.w3 x (CD t2 a.w2 x (CD t1 a.w1 x (CD t0 a.w0 x 0)))) 0).toNat):=by
  rw [Nat.zero_mul,Nat.mul_add]
  omega
 have h:=Ha (G9 t0 a.w0 x 0) (Ha (G9 t1 a.w1 x _) (Ha (G9 t2 a.w2 x _) (Ha (G9 t3 a.w3 x _) h5)))
 rw [show (0:UInt64).toNat=0 from rfl,Nat.add_zero,Nat.mul_zero,Nat.add_zero] at h
 exact (aHx (f:=t5+Gc t4 (CD t3 a.w3 x (CD t2 a.w2 x (CD t1 a.w1 x (CD t0 a.w0 x 0)))) 0) h (by rw [UInt64.toNat_add])).symm
def KC:af:=⟨[.val true (.arr 6 .u64),du,aQ],[],true,0,false⟩
abbrev ast:Type:=(ap×ab×mV)×Unit
def aD6:Shape:=⟨61,[(2,aQ),Ci,(4,im),(6,fV),(7,aQ),(13,aD)],aix,0,true⟩
abbrev jw:Type:=(UInt64×air)×oX
def BS:Shape:=⟨61,[Ci,jP,(7,aQ)],uq,0,true⟩
abbrev vR:Type:=aio
def aD9 (a2:UInt64) (a7:UInt64) (a13:Int) (c0:ap) (c1:ap) (c2:ap):OT (Sum jw aZ):=
 let z0:Bool:=inB a13 6
 let z1:Bool:=decide (Int.toNat a13+0<List.length c0)
 let z2:UInt64:=List.getD c1 (Int.toNat a13+0) (0:UInt64)
 let z3:UInt64:=List.getD c0 (Int.toNat a13+0) (0:UInt64)
 let z4:UInt64:=zU (z2*a2) a7 (0:UInt64)
 (.br (decide (a13<(4:Int)))
 (gd [inB a13 4,decide (Int.toNat a13+0<List.length c1),z0,z1,z0,z1,inR (a13+(1:Int))] (.ok (.inl ((a2,(),(),(),avo z2 a2+Gc (z2*a2) a7 (0:UInt64)+Gc z3 z4 (0:UInt64),a13+(1:Int),()),List.set c0 (Int.toNat a13+0) (zU z3 z4 (0:UInt64)),c1,c2,()))))
 (.ok (.inr ⟨(.exit 0,BS),(((),(),a7,()),c0,c2,())⟩)))
def R4 (s:jw):OT (Sum jw aZ):=aD9 s.1.1 s.1.2.2.2.2.1 s.1.2.2.2.2.2.1 s.2.1 s.2.2.1 s.2.2.2.1
def asr (g0_0:jw->vR) (s:jw):OT aZ:=(.ok ⟨(.exit 0,BS),g0_0 s⟩)
def ade:aL:=⟨[.val true (.arr 6 .u64)],[],false⟩
section
variable (ok0:jw->Bool) (g0_0:jw->vR)
def aAN (a0:ap) (a1:ab) (a2:UInt64):OT KC.Y:=
 let z0:jw:=((a2,(),(),(),(0:UInt64),(0:Int),()),tab a0 6 (0:UInt64),[a1.w0,a1.w1,a1.w2,a1.w3],[(0:UInt64),(0:UInt64),(0:UInt64),(0:UInt64),(0:UInt64),(0:UInt64)],())
 let z1:vR:=g0_0 z0
 let z2:=z1.snd
 let z3:=z2.fst
 let z4:Bool:=decide (4<List.length z3)
 let z5:UInt64:=List.getD z3 4 0
 let z6:=z1.fst.snd.snd.fst
 let z7:ap:=List.set z3 4 (zU z5 z6 (0:UInt64))
 let z8:Bool:=decide (5<List.length z7)
 let z9:ap:=List.set z7 5 (List.getD z7 5 0+Gc z5 z6 (0:UInt64))
 let z10:=z2.snd.fst
 let z11:ap:=lay z10 z9 6 (0:UInt64)
 (gd [ok0 z0,z4,z4,z8,z8,decide (6<=List.length z9),decide ((6/1:Nat)+0<=List.length z10),decide (6<=List.length z11)] (.ok ⟨ade,((tab z11 6 (0:UInt64),()),())⟩))
theorem asp (h0:bh R4 ok0 (asr g0_0)) (pre:ast->Bool) (F:ast->OT KC.Y) (hF:∀ (x:ast) oy,pre x=true->(F x).run=some oy->(aAN ok0 g0_0 x.1.1 x.1.2.1 x.1.2.2.1).run=some oy):aa aj 178 (KC.az pre F):=
 dh S7 178 Tryz.f178 KC [ade] (kZ S7 0 aD6 [(0,BS)] none none R4 bE h0 bE) (λx=>aAN ok0 g0_0 x.1.1 x.1.2.1 x.1.2.2.1) hF
end
def azD (a:ap) (x:UInt64) (k:Nat) (s:FL):FL:=(s.1.set k (aE9 (s.1.getD k 0) (a.getD k 0) x s.2),CD (s.1.getD k 0) (a.getD k 0) x s.2)
def ahn (s:jw):Bool:=decide (s.1.2.2.2.2.1=0/\s.1.2.2.2.2.2.1=0/\s.2.1.length=6/\s.2.2.1.length=4)
def asq (s:jw):vR:=(((),(),(upto (azD s.2.2.1 s.1.1) (s.2.1,0) 4).2,()),(upto (azD s.2.2.1 s.1.1) (s.2.1,0) 4).1,s.2.2.2.1,())
theorem aD8:bh R4 ahn (asr asq):=by
 rintro ⟨⟨x,⟨⟩,⟨⟩,⟨⟩,c,i,⟨⟩⟩,⟨t,a,o,⟨⟩⟩⟩ h
 have h':=bn h
 dsimp only at h'
 obtain ⟨rfl,rfl,ht,ha⟩:=h'
 have:=(bf (T:=R4) (λk s=>(((x,(),(),(),s.2,(k:Int),()),s.1,a,o,()):jw)) (azD a x)
  (λs=>(⟨(.exit 0,BS),(((),(),s.2,()),s.1,o,())⟩:aZ)) 4 (t,0) (λ_ s=>s.1.length=6) ht (λk s hk hs=>⟨?_,?_⟩) (λs hs=> ?_)).1
 ·obtain ⟨m,hm⟩:=this
  exact ⟨m,_,hm,rfl⟩
 ·refine (OT.ak (ag (by dsimp only;omega))).trans ((ae ?_).trans ?_)
  ·simp only [cB,Nat.add_zero,hs,ha,aA,aI,aJ,aw]
   exact ⟨ba (by omega),ag (by omega),ba (by omega),ag (by omega),ba (by omega),ag (by omega),aS (by omega)⟩
  ·simp only [OT.jb,cB,Nat.add_zero]
   rfl
 ·simp only [azD,cy]
  exact hs
 ·exact OT.au (bq (by dsimp only;omega))
def ahm (_:ast):Bool:=true
def ass (x:ast):OT KC.Y:=.ok ⟨ade,((l6 (v6 x.1.1+x.1.2.1.nat*x.1.2.2.1.toNat),()),())⟩
theorem aD7:aa aj 178 (KC.az ahm ass):=asp ahn asq aD8 _ _ λx oy hp ho=>by
 rw [<-ho]
 clear ho
 obtain ⟨⟨t,a,x,⟨⟩⟩,⟨⟩⟩:=x
 refine (ae ?_).trans ?_
 ·simp only [aA,aI,aJ,aw]
  exact ⟨rfl,rfl,rfl,rfl,rfl,rfl,rfl,rfl⟩
 ·have e:=aET (t.getD 0 0) (t.getD 1 0) (t.getD 2 0) (t.getD 3 0) (t.getD 4 0) (t.getD 5 0) a x
  have e2:l6 (v6 t+a.nat*x.toNat)=aH9 (t.getD 0 0) (t.getD 1 0) (t.getD 2 0) (t.getD 3 0) (t.getD 4 0) (t.getD 5 0) a x:=e.symm
  simp only [ass,e2]
  rfl
def KB:bx:=(KC.az ahm ass)
theorem amE:aa aj 178 KB:=aD7
theorem amD:ax KB:=av
def aBS:Env:=aq 178 KB aBK
theorem S8:bU aj te aBS:=aU follows S7 amE amD
theorem aFf {n:Nat} (h:n/18446744073709551616/18446744073709551616/18446744073709551616/18446744073709551616/18446744073709551616<18446744073709551616):v6 (l6 n)=n:=by
 unfold v6 l6
 simp only [List.getD_cons_zero,List.getD_cons_succ,dv]
 rw [show (2:Nat)^64=18446744073709551616 from rfl]
 omega
def H3 (p neg a:Nat) (b t:Nat):Nat:=(t+a*b+p*((t+a*b)*neg%18446744073709551616))/18446744073709551616
theorem uO {p neg a b t:Nat} (hn:(p*neg+1)%18446744073709551616=0):18446744073709551616*H3 p neg a b t=t+a*b+p*((t+a*b)*neg%18446744073709551616):=by
 unfold H3
 refine Nat.mul_div_cancel' (Nat.dvd_of_mod_eq_zero ?_)
 generalize t+a*b=u
 rw [Nat.add_mod,Nat.mul_mod,Nat.mod_mod,<-Nat.mul_mod,<-Nat.add_mod]
 have:u+p*(u*neg)=u*(p*neg+1):=by
  rw [Nat.mul_add,Nat.mul_one,Nat.mul_left_comm]
  omega
 rw [this,Nat.mul_mod,hn,Nat.mul_zero,Nat.zero_mod]
theorem uN {p neg a b t:Nat} (hn:(p*neg+1)%18446744073709551616=0) (ht:t<2*p) (ha:a<p) (hb:b<18446744073709551616):H3 p neg a b t<2*p:=by
 have h:=uO (a:=a) (b:=b) (t:=t) hn
 have hm:(t+a*b)*neg%18446744073709551616<=18446744073709551615:=by
  have:=Nat.mod_lt ((t+a*b)*neg) (show 0<18446744073709551616 by omega)
  omega
 have h1:p*((t+a*b)*neg%18446744073709551616)<=p*18446744073709551615:=Nat.mul_le_mul_left _ hm
 have h2:a*b<=p*18446744073709551615:=Nat.mul_le_mul (by omega) (by omega)
 omega
theorem aC4 {p a b t t1 m K T B M W:Nat} (h1:W*t1=t+a*b+p*m) (h2:K*T=t1+a*B+p*M):(W*K)*T=t+a*(b+W*B)+p*(m+W*M):=by
 have e:(W*K)*T=W*t1+W*(a*B)+W*(p*M):=by rw [Nat.mul_assoc,h2,Nat.mul_add,Nat.mul_add]
 rw [e,h1,Nat.mul_add,Nat.mul_add,Nat.mul_left_comm a W,Nat.mul_left_comm p W]
 omega
theorem aIb {p a b T K M r:Nat} (h:K*T=a*b+p*M) (hr:K*r%p=1%p):T%p=a*b*r%p:=by
 have h1:(K*T)*r=a*b*r+p*(M*r):=by rw [h,Nat.add_mul,Nat.mul_assoc p]
 have h2:a*b*r%p=(K*T*r)%p:=by rw [h1,Nat.add_mul_mod_self_left]
 have h3:K*T*r=T*(K*r):=by rw [Nat.mul_comm K T,Nat.mul_assoc]
 rw [h2,h3,Nat.mul_mod,hr,<-Nat.mul_mod,Nat.mul_one]
def aFR (p neg a:Nat) (b:ab):Nat:=H3 p neg a b.w3.toNat (H3 p neg a b.w2.toNat (H3 p neg a b.w1.toNat (H3 p neg a b.w0.toNat 0)))
theorem axq {p neg a r:Nat} {b:ab} (hn:(p*neg+1)%18446744073709551616=0) (hr:115792089237316195423570985008687907853269984665640564039457584007913129639936*r%p=1%p):aFR p neg a b%p=a*b.nat*r%p:=by
 have h:=aC4 (uO (a:=a) (b:=b.w0.toNat) (t:=0) hn) (aC4 (uO (a:=a) (b:=b.w1.toNat) hn) (aC4 (uO (a:=a) (b:=b.w2.toNat) hn) (show 18446744073709551616*_=_+a*b.w3.toNat+p*_ from uO hn)))
 rw [Nat.zero_add] at h
 exact aIb (K:=18446744073709551616*(18446744073709551616*(18446744073709551616*18446744073709551616))) h hr
theorem aDB {p neg a:Nat} {b:ab} (hn:(p*neg+1)%18446744073709551616=0) (ha:a<p):aFR p neg a b<2*p:=
 uN hn (uN hn (uN hn (uN hn (by omega) ha b.w0.toNat_lt) ha b.w1.toNat_lt) ha b.w2.toNat_lt) ha b.w3.toNat_lt
theorem aDC {T p:Nat} (h:T<2*p):T%p=if T<p then T else T-p:=by
 split
 ·exact bm ‹_›
 ·rw [Nat.mod_eq_sub_mod (by omega),bm (by omega)]
def tC:af:=⟨[OW,du,du],[],true,0,false⟩
abbrev WI:Type:=(iR×xe)×Unit
def ayg:Shape:=⟨61,[Ci,(4,im),(6,fV),(7,gn),(13,du),(14,aD)],[(0,OX),o3,lx,nS],0,true⟩
abbrev fv:Type:=(Unit×Unit×Unit×Unit×ab×eS)×MF×oX
def vH:Shape:=⟨61,[Ci,jP,(7,fV)],aed,0,true⟩
abbrev zl:Type:=nO×MF×zV
def RG (a13:ab) (a14:Int) (c0_0:UInt64) (c0_1:UInt64) (c0_2:UInt64) (c0_3:UInt64) (c0_4:Int) (c0_5:UInt64) (c0_6:UInt64) (c0_7:UInt64) (c0_8:UInt64) (c0_9:UInt64) (c0_10:UInt64) (c1:ap) (c2:ap) (c3:ap):OT (Sum fv aZ):=
 let z0:Nat:=List.length c3
 let z1:ap:=lay c3 (l6 (v6 (tab c3 6 (0:UInt64))+ab.nat {w0:=List.getD c1 0 0,w1:=List.getD c1 1 0,w2:=List.getD c1 2 0,w3:=List.getD c1 3 0}*UInt64.toNat (List.getD [a13.w0,a13.w1,a13.w2,a13.w3] (Int.toNat a14) (0:UInt64)))) 6 (0:UInt64)
 let z2:Nat:=List.length z1
 let z3:ap:=lay z1 (l6 (v6 (tab z1 6 (0:UInt64))+ab.nat {w0:=c0_0,w1:=c0_1,w2:=c0_2,w3:=c0_3}*UInt64.toNat (List.getD z1 0 0*c0_6))) 6 (0:UInt64)
 let z4:Nat:=List.length z3
 (.br (decide (a14<(4:Int)))
 (gd [inB a14 4,decide (6<=z0),decide (4<=List.length c1),decide ((6/1:Nat)+0<=z0),decide (6<=z2),decide (0<z2),decide ((6/1:Nat)+0<=z2),decide (1<z4),decide (2<z4),decide (3<z4),decide (4<z4),decide (5<z4),decide ((6/1:Nat)+0<=z4),inR (a14+(1:Int))] (.ok (.inl (((),(),(),(),a13,a14+(1:Int),()),(c0_0,c0_1,c0_2,c0_3,c0_4,c0_5,c0_6,c0_7,c0_8,c0_9,c0_10,()),c1,c2,List.set (List.set (List.set (List.set (List.set (List.set z3 0 (List.getD z3 1 0)) 1 (List.getD z3 2 0)) 2 (List.getD z3 3 0)) 3 (List.getD z3 4 0)) 4 (List.getD z3 5 0)) 5 (0:UInt64),()))))
 (.ok (.inr ⟨(.exit 0,vH),(((),(),(),()),(c0_0,c0_1,c0_2,c0_3,c0_4,c0_5,c0_6,c0_7,c0_8,c0_9,c0_10,()),c2,c3,())⟩)))
def GW (s:fv):OT (Sum fv aZ):=RG s.1.2.2.2.2.1 s.1.2.2.2.2.2.1 s.2.1.1 s.2.1.2.1 s.2.1.2.2.1 s.2.1.2.2.2.1 s.2.1.2.2.2.2.1 s.2.1.2.2.2.2.2.1 s.2.1.2.2.2.2.2.2.1 s.2.1.2.2.2.2.2.2.2.1 s.2.1.2.2.2.2.2.2.2.2.1 s.2.1.2.2.2.2.2.2.2.2.2.1 s.2.1.2.2.2.2.2.2.2.2.2.2.1 s.2.2.1 s.2.2.2.1 s.2.2.2.2.1
def ag8 (g0_0:fv->zl) (s:fv):OT aZ:=(.ok ⟨(.exit 0,vH),g0_0 s⟩)
def vF:aL:=⟨il,[],false⟩
section
variable (ok0:fv->Bool) (g0_0:fv->zl)
def arH (a0:iR) (a1:ab) (a2:ab):OT tC.Y:=
 let z0:fv:=(((),(),(),(),a2,(0:Int),()),(a0.fst.w0,a0.fst.w1,a0.fst.w2,a0.fst.w3,a0.snd.fst,a0.snd.snd.fst,a0.snd.snd.snd.fst,a0.snd.snd.snd.snd.w0,a0.snd.snd.snd.snd.w1,a0.snd.snd.snd.snd.w2,a0.snd.snd.snd.snd.w3,()),[a1.w0,a1.w1,a1.w2,a1.w3],[(0:UInt64),(0:UInt64),(0:UInt64),(0:UInt64)],[(0:UInt64),(0:UInt64),(0:UInt64),(0:UInt64),(0:UInt64),(0:UInt64)],())
 let z1:=(g0_0 z0).snd
 let z2:=z1.snd
 let z3:=z2.snd.fst
 let z4:Nat:=List.length z3
 let z5:=z2.fst
 let z6:Nat:=List.length z5
 let z7:Bool:=decide ((4/1:Nat)+0<=z6)
 let z8:=z1.fst
 let z9:=z8.snd
 let z10:=z9.snd
 let z11:ab×Bool:=m5 {w0:=List.getD z3 0 0,w1:=List.getD z3 1 0,w2:=List.getD z3 2 0,w3:=List.getD z3 3 0} {w0:=z8.fst,w1:=z9.fst,w2:=z10.fst,w3:=z10.snd.fst}
 let z12:=z11.fst
 let z13:ap:=List.set (List.set (List.set (List.set z5 0 z12.w0) 1 z12.w1) 2 z12.w2) 3 z12.w3
 let z14:Bool:=decide (4<=List.length z13)
 let z15:ab:= {w0:=List.getD z13 0 0,w1:=List.getD z13 1 0,w2:=List.getD z13 2 0,w3:=List.getD z13 3 0}
 let z16:ap:=lay z5 z3 4 (0:UInt64)
 (gd [ok0 z0,decide (6<=z4)&&true,decide (4<=z4),decide (4<z4)] (.br (!List.getD z3 4 0==(0:UInt64))
 (gd [z7,z14] (.ok ⟨vF,((z15,()),())⟩))
 (.br (!z11.snd)
  (gd [z7,z14] (.ok ⟨vF,((z15,()),())⟩))
  (gd [decide ((4/1:Nat)+0<=z6),decide (4<=List.length z16)] (.ok ⟨vF,(({w0:=List.getD z16 0 0,w1:=List.getD z16 1 0,w2:=List.getD z16 2 0,w3:=List.getD z16 3 0},()),())⟩)))))
theorem al7 (h0:bh GW ok0 (ag8 g0_0)) (pre:WI->Bool) (F:WI->OT tC.Y) (hF:∀ (x:WI) oy,pre x=true->(F x).run=some oy->(arH ok0 g0_0 x.1.1 x.1.2.1 x.1.2.2.1).run=some oy):aa aj 154 (tC.az pre F):=
 dh S8 154 Tryz.f154 tC [vF] (kZ S8 0 ayg [(0,vH)] none none GW bE h0 bE) (λx=>arH ok0 g0_0 x.1.1 x.1.2.1 x.1.2.2.1) hF
end
def lk (n:MH):Bool:=decide (n=numOf 2)||decide (n=numOf 3)
theorem jq {n:MH} (h:lk n=true):n=numOf 2\/n=numOf 3:=by
 simpa [lk] using h
def awQ (n:MH):Nat:=if n.2.2.2.1==11037532056220336127 then 15353493766103302224812374511606760489073247795810767472367693728416386214313 else 14238205147845459960272226733876560297615832660064601289232577236146637664127
theorem arw {n:MH} (h:lk n=true):(n.1.nat*n.2.2.2.1.toNat+1)%18446744073709551616=0:=by
 rcases jq h with rfl|rfl<;>decide+kernel
theorem arx {n:MH} (h:lk n=true):115792089237316195423570985008687907853269984665640564039457584007913129639936*awQ n%n.1.nat=1%n.1.nat:=by
 rcases jq h with rfl|rfl<;>decide+kernel
theorem aru {n:MH} (h:lk n=true):2*n.1.nat<=115792089237316195423570985008687907853269984665640564039457584007913129639936:=by
 rcases jq h with rfl|rfl<;>decide+kernel
theorem aH1 (n:Nat):tab (l6 n) 6 0=l6 n:=rfl
theorem axw {n:Nat} (h:n/18446744073709551616/18446744073709551616/18446744073709551616/18446744073709551616/18446744073709551616/18446744073709551616=0):
 [UInt64.ofNat (n/18446744073709551616),UInt64.ofNat (n/18446744073709551616/18446744073709551616),UInt64.ofNat (n/18446744073709551616/18446744073709551616/18446744073709551616),
  UInt64.ofNat (n/18446744073709551616/18446744073709551616/18446744073709551616/18446744073709551616),UInt64.ofNat (n/18446744073709551616/18446744073709551616/18446744073709551616/18446744073709551616/18446744073709551616),0]=l6 (n/18446744073709551616):=by
 unfold l6
 rw [h]
 rfl
theorem aH5 (a b:Nat):lay (l6 a) (l6 b) 6 0=l6 b:=VD rfl rfl
theorem avC (U:Nat) (neg:UInt64):(List.getD (l6 U) 0 0*neg).toNat=U*neg.toNat%18446744073709551616:=by
 show (UInt64.ofNat U*neg).toNat=_
 rw [UInt64.toNat_mul,dv,Nat.mul_mod,Nat.mod_mod,<-Nat.mul_mod]
theorem al6 (b:ab) (k:Nat) (hk:k<4) (x0 x1 x2 x3 x5 x6 x7 x8 x9 x10:UInt64) (x4:Int) (c1 c2:ap) (T:Nat) (h1:c1.length=4) (hT:T<2*(ab.mk x0 x1 x2 x3).nat)
 (hn:((ab.mk x0 x1 x2 x3).nat*x6.toNat+1)%18446744073709551616=0) (hp:2*(ab.mk x0 x1 x2 x3).nat<=115792089237316195423570985008687907853269984665640564039457584007913129639936) (ha:(elemOf c1).nat<(ab.mk x0 x1 x2 x3).nat):
 (RG b (k:Int) x0 x1 x2 x3 x4 x5 x6 x7 x8 x9 x10 c1 c2 (l6 T)).run=some (.inl (((),(),(),(),b,((k+1:Nat):Int),()),(x0,x1,x2,x3,x4,x5,x6,x7,x8,x9,x10,()),c1,c2,l6 (H3 (ab.mk x0 x1 x2 x3).nat x6.toNat (elemOf c1).nat ((lst b).getD k 0).toNat T),())):=by
 have hlt:=uN (b:=((lst b).getD k 0).toNat) hn hT ha (UInt64.toNat_lt _)
 have heq:=uO (a:=(elemOf c1).nat) (b:=((lst b).getD k 0).toNat) (t:=T) hn
 have hrd:H3 (ab.mk x0 x1 x2 x3).nat x6.toNat (elemOf c1).nat ((lst b).getD k 0).toNat T=(T+(elemOf c1).nat*((lst b).getD k 0).toNat+(ab.mk x0 x1 x2 x3).nat*((T+(elemOf c1).nat*((lst b).getD k 0).toNat)*x6.toNat%18446744073709551616))/18446744073709551616:=rfl
 generalize hU:T+(elemOf c1).nat*((lst b).getD k 0).toNat=U at heq hrd
 generalize hV:U+(ab.mk x0 x1 x2 x3).nat*(U*x6.toNat%18446744073709551616)=V at heq hrd
 generalize H3 (ab.mk x0 x1 x2 x3).nat x6.toNat (elemOf c1).nat ((lst b).getD k 0).toNat T=S at*
 have hVU:U<=V:=by rw [<-hV];exact Nat.le_add_right _ _
 have hz1:lay (l6 T) (l6 (v6 (tab (l6 T) 6 0)+ab.nat {w0:=List.getD c1 0 0,w1:=List.getD c1 1 0,w2:=List.getD c1 2 0,w3:=List.getD c1 3 0}*UInt64.toNat (List.getD [b.w0,b.w1,b.w2,b.w3] (Int.toNat (k:Int)) 0))) 6 0=l6 U:=by
  rw [aH1,aFf (by omega),aH5,cB]
  exact congrArg l6 hU
 have hz3:lay (l6 U) (l6 (v6 (tab (l6 U) 6 0)+ab.nat {w0:=x0,w1:=x1,w2:=x2,w3:=x3}*UInt64.toNat (List.getD (l6 U) 0 0*x6))) 6 0=l6 V:=by
  rw [aH1,aFf (by omega),aH5,avC,hV]
 have hsh:_=l6 (V/18446744073709551616):=axw (n:=V) (by omega)
 unfold RG
 simp only [hz1,hz3]
 refine (OT.ak (ag (by omega))).trans ((ae ?_).trans ?_)
 ·simp only [aqH,h1,aA,aI,aJ,aw]
  exact ⟨ba (by omega),rfl,rfl,rfl,rfl,rfl,rfl,rfl,rfl,rfl,rfl,rfl,rfl,aS (by omega)⟩
 ·rw [hrd]
  exact congrArg (λl=>some (Sum.inl (((),(),(),(),b,((k+1:Nat):Int),()),(x0,x1,x2,x3,x4,x5,x6,x7,x8,x9,x10,()),c1,c2,l,()))) hsh
def atl (s:fv):ab:=⟨s.2.1.1,s.2.1.2.1,s.2.1.2.2.1,s.2.1.2.2.2.1⟩
def aEC (s:fv):UInt64:=s.2.1.2.2.2.2.2.2.1
def WH (s:fv):Bool:=decide (s.1.2.2.2.2.2.1=0/\s.2.2.1.length=4/\s.2.2.2.2.1=l6 0/\((atl s).nat*(aEC s).toNat+1)%18446744073709551616=0/\2*(atl s).nat<=115792089237316195423570985008687907853269984665640564039457584007913129639936/\(elemOf s.2.2.1).nat<(atl s).nat)
def RF (s:fv):zl:=(((),(),(),()),s.2.1,s.2.2.2.1,l6 (aFR (atl s).nat (aEC s).toNat (elemOf s.2.2.1).nat s.1.2.2.2.2.1),())
theorem ayi:bh GW WH (ag8 RF):=by
 rintro ⟨⟨⟨⟩,⟨⟩,⟨⟩,⟨⟩,b,i,⟨⟩⟩,⟨⟨x0,x1,x2,x3,x4,x5,x6,x7,x8,x9,x10,⟨⟩⟩,c1,c2,c3,⟨⟩⟩⟩ h
 have h':=bn h
 dsimp only [atl,aEC] at h'
 obtain ⟨rfl,h1,rfl,hn,hp,ha⟩:=h'
 have:=(bf (T:=GW) (λk T=>((((),(),(),(),b,(k:Int),()),(x0,x1,x2,x3,x4,x5,x6,x7,x8,x9,x10,()),c1,c2,l6 T,()):fv)) (λk T=>H3 (ab.mk x0 x1 x2 x3).nat x6.toNat (elemOf c1).nat ((lst b).getD k 0).toNat T)
  (λT=>(⟨(.exit 0,vH),(((),(),(),()),(x0,x1,x2,x3,x4,x5,x6,x7,x8,x9,x10,()),c2,l6 T,())⟩:aZ)) 4 0 (λ_ T=>T<2*(ab.mk x0 x1 x2 x3).nat) (by omega) (λk T hk hT=>⟨?_,?_⟩) (λT hT=> ?_)).1
 ·obtain ⟨m,hm⟩:=this
  exact ⟨m,_,hm,rfl⟩
 ·exact al6 b k hk x0 x1 x2 x3 x5 x6 x7 x8 x9 x10 x4 c1 c2 T h1 hT hn hp ha
 ·exact uN hn hT ha (UInt64.toNat_lt _)
 ·exact OT.au (bq (by dsimp only;omega))
def tB (x:WI):Bool:=lk x.1.1&&Nat.blt x.1.2.1.nat x.1.1.1.nat
def arI (x:WI):OT tC.Y:=.ok ⟨vF,((ofN (x.1.2.1.nat*x.1.2.2.1.nat*awQ x.1.1%x.1.1.1.nat),()),())⟩
theorem ayh:aa aj 154 (tC.az tB arI):=al7 WH RF ayi _ _ λx oy hp ho=>by
 rw [<-ho]
 clear ho
 obtain ⟨⟨⟨⟨m0,m1,m2,m3⟩,ad,sm,neg,sq⟩,a,b,⟨⟩⟩,⟨⟩⟩:=x
 have hp':(lk (⟨m0,m1,m2,m3⟩,ad,sm,neg,sq)&&Nat.blt a.nat (ab.mk m0 m1 m2 m3).nat)=true:=hp
 rw [aw] at hp'
 obtain ⟨hg,ha⟩:=hp'
 have ha:=dI ha
 have hn:((ab.mk m0 m1 m2 m3).nat*neg.toNat+1)%18446744073709551616=0:=arw hg
 have h2:2*(ab.mk m0 m1 m2 m3).nat<=115792089237316195423570985008687907853269984665640564039457584007913129639936:=aru hg
 have hr:115792089237316195423570985008687907853269984665640564039457584007913129639936*awQ (⟨m0,m1,m2,m3⟩,ad,sm,neg,sq)%(ab.mk m0 m1 m2 m3).nat=1%(ab.mk m0 m1 m2 m3).nat:=arx hg
 have hM:=axq (a:=a.nat) (b:=b) hn hr
 have hL:=aDB (b:=b) hn ha
 refine (ae ?_).trans ?_
 ·simp only [aA,aI,aJ,aw]
  exact ⟨ag ⟨rfl,rfl,rfl,hn,h2,ha⟩,rfl,rfl,rfl⟩
 ·show _=(OT.ok ⟨vF,((ofN (a.nat*b.nat*awQ (⟨m0,m1,m2,m3⟩,ad,sm,neg,sq)%(ab.mk m0 m1 m2 m3).nat),()),())⟩:OT tC.Y).run
  rw [<-hM,aDC hL]
  have e0:RF (((),(),(),(),b,0,()),(m0,m1,m2,m3,ad,sm,neg,sq.w0,sq.w1,sq.w2,sq.w3,()),[a.w0,a.w1,a.w2,a.w3],[0,0,0,0],[0,0,0,0,0,0],())=(((),(),(),()),(m0,m1,m2,m3,ad,sm,neg,sq.w0,sq.w1,sq.w2,sq.w3,()),[0,0,0,0],l6 (aFR (ab.mk m0 m1 m2 m3).nat neg.toNat a.nat b),()):=rfl
  dsimp only
  rw [e0]
  clear e0 hM
  generalize aFR (ab.mk m0 m1 m2 m3).nat neg.toNat a.nat b=M at*
  have e4:List.getD (l6 M) 4 0=0:=by
   show UInt64.ofNat (M/18446744073709551616/18446744073709551616/18446744073709551616/18446744073709551616)=0
   rw [show M/18446744073709551616/18446744073709551616/18446744073709551616/18446744073709551616=0 by omega]
   rfl
  refine (OT.au (by rw [e4];rfl)).trans ?_
  have eN:(ofN M).nat=M:=n7 (by omega)
  by_cases hlt:M<(ab.mk m0 m1 m2 m3).nat
  ·rw [if_pos hlt]
   refine (OT.au ?_).trans ((ae rfl).trans rfl)
   show (!Nat.blt (ofN M).nat (ab.mk m0 m1 m2 m3).nat)=false
   rw [eN,show Nat.blt M (ab.mk m0 m1 m2 m3).nat=true from jR hlt]
   rfl
  ·rw [if_neg hlt]
   refine (OT.ak ?_).trans ((ae rfl).trans ?_)
   ·show (!Nat.blt (ofN M).nat (ab.mk m0 m1 m2 m3).nat)=true
    rw [eN]
    cases hb:Nat.blt M (ab.mk m0 m1 m2 m3).nat
    ·rfl
    ·exact absurd (dI hb) hlt
   ·have ew:(m5 (ofN M) (ab.mk m0 m1 m2 m3)).1=ofN (M-(ab.mk m0 m1 m2 m3).nat):=by
     apply gF
     rw [Ao (by omega),eN,n7 (by omega)]
    rw [<-ew]
    rfl
def DZ:bx:=(tC.az tB arI)
theorem acD:aa aj 154 DZ:=ayh
theorem acC:ax DZ:=av
def auY:Env:=aq 154 DZ aBS
theorem Za:bU aj te auY:=aU follows S8 acD acC
def tI:af:=⟨[OW,du,du],[],true,0,false⟩
abbrev WX:Type:=(iR×xe)×Unit
def qu:aL:=⟨il,[],false⟩
def D7 (a0:iR) (a1:ab) (a2:ab):OT tI.Y:=
 let z0:Bool:= !a0.snd.snd.fst==(0:UInt64)
 let z1:Nat:=ab.nat a0.fst
 let z2:ab:=ofN (ab.nat a1%z1)
 let z3:ab:=ofN (ab.nat a2%z1)
 let z4:Nat:=awQ a0
 let z5:ab:=ofN (ab.nat z2*ab.nat z3*z4%z1)
 (gd [ii ((a0,a1,()),()),ii ((a0,a2,()),())] (.br (z0)
 (gd [z0] (.ok ⟨qu,(({w0:=z2.w0*z3.w0%a0.snd.snd.fst,w1:=0,w2:=0,w3:=0},()),())⟩))
 (gd [tB ((a0,z2,z3,()),()),tB ((a0,z5,a0.snd.snd.snd.snd,()),())] (.ok ⟨qu,((ofN (ab.nat z5*ab.nat a0.snd.snd.snd.snd*z4%z1),()),())⟩))))
theorem amk (pre:WX->Bool) (F:WX->OT tI.Y) (hF:∀ (x:WX) oy,pre x=true->(F x).run=some oy->(D7 x.1.1 x.1.2.1 x.1.2.2.1).run=some oy):aa aj 119 (tI.az pre F):=
 dh Za 119 Tryz.f119 tI [qu] bE (λx=>D7 x.1.1 x.1.2.1 x.1.2.2.1) hF
theorem aqo {p A B r s:Nat} (h:r*s*r%p=1%p):A*B*r%p*s*r%p=A*B%p:=by
 have e:A*B*r*(s*r)=A*B*(r*s*r):=by
  rw [Nat.mul_assoc (A*B) r (s*r),Nat.mul_assoc r s r]
 rw [Nat.mul_assoc,Nat.mul_mod,Nat.mod_mod,<-Nat.mul_mod,e,Nat.mul_mod,h,<-Nat.mul_mod,Nat.mul_one]
theorem ax1 {n:MH} (h:lk n=true):awQ n*n.2.2.2.2.nat*awQ n%n.1.nat=1%n.1.nat:=by
 rcases jq h with rfl|rfl<;>decide+kernel
theorem aF2:lk (numOf 2)=true:=by decide+kernel
theorem aF1:lk (numOf 3)=true:=by decide+kernel
theorem arv {n:MH} (h:lk n=true):lf n=true:=by
 rcases jq h with rfl|rfl<;>decide+kernel
theorem Fx {n:MH} {a b:ab} {m:UInt64} (hn0:lf n=true) (h1:n.1=⟨m,0,0,0⟩) (h2:n.2.2.1=m) (hs:jm m=true):(D7 n a b).run=some ⟨qu,((aR n.1.nat a b,()),())⟩:=by
 have hm:=AJ hs
 have hb':m.toNat<=16521217:=by rcases ic hs with rfl|rfl<;>decide
 have hn:n.1.nat=m.toNat:=by rw [h1];show m.toNat+_*(0+_*(0+_*0))=_;omega
 have hz:(!(n.2.2.1==0))=true:=by
  rw [h2]
  rcases ic hs with rfl|rfl<;>rfl
 have ha:=Nat.mod_lt a.nat hm
 have hb:=Nat.mod_lt b.nat hm
 have hab:a.nat%m.toNat*(b.nat%m.toNat)<18446744073709551616:=by
  have:a.nat%m.toNat*(b.nat%m.toNat)<=16521217*16521217:=Nat.mul_le_mul (by omega) (by omega)
  omega
 have e:UInt64.ofNat (a.nat%m.toNat)*UInt64.ofNat (b.nat%m.toNat)%m=UInt64.ofNat (a.nat*b.nat%m.toNat):=by
  have hlt:=Nat.mod_lt (a.nat*b.nat) hm
  rw [<-rB,UInt64.toNat_mod,UInt64.toNat_mul,dv,dv,dv,bm (a:=a.nat%m.toNat) (by omega),bm (a:=b.nat%m.toNat) (by omega),
   bm (a:=a.nat%m.toNat*(b.nat%m.toNat)) (by omega),bm (a:=a.nat*b.nat%m.toNat) (by omega),<-Nat.mul_mod]
 have hlt:=Nat.mod_lt (a.nat*b.nat) hm
 unfold D7
 refine (ae ?_).trans ((OT.ak hz).trans ((ae ?_).trans ?_))
 ·simp only [aA,aI,aJ,aw]
  exact ⟨hn0,hn0⟩
 ·simp only [hz,aA,aI,aJ]
 ·unfold aR
  rw [hn,Vk (n:=a.nat*b.nat%m.toNat) (by omega),<-e]
  show some (⟨qu,((⟨UInt64.ofNat (a.nat%m.toNat)*UInt64.ofNat (b.nat%m.toNat)%n.2.2.1,0,0,0⟩,()),())⟩:tI.Y)=_
  rw [h2]
theorem Km {n:MH} {a b:ab} (h:lk n=true) (h2:n.2.2.1=0):(D7 n a b).run=some ⟨qu,((aR n.1.nat a b,()),())⟩:=by
 have hn0:=arv h
 have hp:=A7 hn0
 have hz:(!(n.2.2.1==0))=false:=by rw [h2];rfl
 have e1:(ofN (a.nat%n.1.nat)).nat=a.nat%n.1.nat:=cr hp
 have e2:(ofN (b.nat%n.1.nat)).nat=b.nat%n.1.nat:=cr hp
 have e3:(ofN (a.nat%n.1.nat*(b.nat%n.1.nat)*awQ n%n.1.nat)).nat=a.nat%n.1.nat*(b.nat%n.1.nat)*awQ n%n.1.nat:=cr hp
 unfold D7
 refine (ae ?_).trans ((OT.au hz).trans ((ae ?_).trans ?_))
 ·simp only [aA,aI,aJ,aw]
  exact ⟨hn0,hn0⟩
 ·simp only [aA,aI,aJ,aw,tB,h,true_and,e1,e2,e3]
  exact ⟨jR (Nat.mod_lt _ hp.1),jR (Nat.mod_lt _ hp.1)⟩
 ·simp only [e1,e2,e3,aqo (ax1 h),aR,<-Nat.mul_mod]
  rfl
def gO (x:WX):Bool:=lf x.1.1
def ar3 (x:WX):OT tI.Y:=.ok ⟨qu,((aR x.1.1.1.nat x.1.2.1 x.1.2.2.1,()),())⟩
theorem ayv:aa aj 119 (tI.az gO ar3):=amk _ _ λx oy hp ho=>by
 rw [<-ho]
 clear ho
 obtain ⟨⟨n,a,b,⟨⟩⟩,⟨⟩⟩:=x
 have hp':lf n=true:=hp
 rcases yn hp' with rfl|rfl|rfl|rfl
 ·exact Fx hp' (m:=16513537) rfl rfl rfl
 ·exact Fx hp' (m:=16521217) rfl rfl rfl
 ·exact Km aF2 rfl
 ·exact Km aF1 rfl
def D6:bx:=(tI.az gO ar3)
theorem acR:aa aj 119 D6:=ayv
theorem acQ:ax D6:=av
def au5:Env:=aq 119 D6 auY
theorem Zd:bU aj te au5:=aU follows Za acR acQ
def wV:af:=⟨LM,[],true,0,false⟩
abbrev acP:Type:=LG
def D5:aL:=⟨il,[],false⟩
def aAD (a0:Int) (a1:ab) (a2:ab):OT wV.Y:=
 let z0:iR:=numOf (Int.toNat a0)
 (.br (ac a0)
 (gd [gO ((z0,a1,a2,()),())] (.ok ⟨D5,((aR (ab.nat z0.fst) a1 a2,()),())⟩))
 (.ok ⟨D5,(({w0:=0,w1:=0,w2:=0,w3:=0},()),())⟩))
theorem ar2 (pre:acP->Bool) (F:acP->OT wV.Y) (hF:∀ (x:acP) oy,pre x=true->(F x).run=some oy->(aAD x.1.1 x.1.2.1 x.1.2.2.1).run=some oy):aa aj 70 (wV.az pre F):=
 dh Zd 70 Tryz.f70 wV [D5] bE (λx=>aAD x.1.1 x.1.2.1 x.1.2.2.1) hF
def ahd (_:acP):Bool:=true
def aAE (x:acP):OT wV.Y:=.br (ac x.1.1) (.ok ⟨D5,((aR (pS x.1.1) x.1.2.1 x.1.2.2.1,()),())⟩) (.ok ⟨D5,((⟨0,0,0,0⟩,()),())⟩)
theorem ar1:aa aj 70 (wV.az ahd aAE):=ar2 _ _ λx oy hp ho=>by
 rw [<-ho]
 clear ho
 obtain ⟨⟨s,a,b,⟨⟩⟩,⟨⟩⟩:=x
 cases hs:ac s
 ·exact (OT.au hs).trans (OT.au (b:=ac s) hs).symm
 ·refine (OT.ak hs).trans ((ae ?_).trans (OT.ak (b:=ac s) hs).symm)
  simp only [aA,aI,aJ]
  exact ji hs
def Kl:bx:=(wV.az ahd aAE)
theorem amj:aa aj 70 Kl:=ar1
theorem ami:ax Kl:=av
def aBN:Env:=aq 70 Kl au5
theorem ajb:bU aj te aBN:=aU follows Zd amj ami
def zo:af:=⟨il,[],true,0,false⟩
abbrev W6:Type:=oV×Unit
def RT:aL:=⟨il,[],false⟩
def asa (a0:ab):OT zo.Y:=
 (.ok ⟨RT,(({w0:=bC a0.w0 (1:Int)|||cC a0.w1 (63:Int),w1:=bC a0.w1 (1:Int)|||cC a0.w2 (63:Int),w2:=bC a0.w2 (1:Int)|||cC a0.w3 (63:Int),w3:=bC a0.w3 (1:Int)},()),())⟩)
theorem amt (pre:W6->Bool) (F:W6->OT zo.Y) (hF:∀ (x:W6) oy,pre x=true->(F x).run=some oy->(asa x.1.1).run=some oy):aa aj 120 (zo.az pre F):=
 dh ajb 120 Tryz.f120 zo [RT] bE (λx=>asa x.1.1) hF
theorem J4 (x y:UInt64):(bC x 1|||cC y 63).toNat=x.toNat/2+9223372036854775808*(y.toNat%2):=by
 have hx:=x.toNat_lt
 have e1:(bC x 1).toNat=x.toNat/2:=iy x 1 (by omega)
 have e2:(cC y 63).toNat=9223372036854775808*(y.toNat%2):=by
  have:=sa y 63 (by omega)
  have e:(cC y 63).toNat=y.toNat*2^63%2^64:=this
  rw [e]
  omega
 rw [UInt64.toNat_or,e1,e2,Nat.or_comm]
 have:=Nat.two_pow_add_eq_or_of_lt (i:=63) (b:=x.toNat/2) (by omega) (y.toNat%2)
 rw [Nat.add_comm]
 exact this.symm
theorem J5 (x N:Nat):(x+18446744073709551616*N)/2=(x/2+9223372036854775808*(N%2))+18446744073709551616*(N/2):=by
 omega
theorem abG (y N:Nat):(y+18446744073709551616*N)%2=y%2:=by
 omega
def iB (a:ab):ab:=ofN (a.nat/2)
theorem ax0 (a:ab):iB a=⟨bC a.w0 1|||cC a.w1 63,bC a.w1 1|||cC a.w2 63,bC a.w2 1|||cC a.w3 63,bC a.w3 1⟩:=by
 refine apY (k:=0) ?_
 rw [J4,J4,J4,Nat.mul_zero,Nat.add_zero]
 unfold Sx.ab.nat
 have e3:(bC a.w3 1).toNat=a.w3.toNat/2:=iy a.w3 1 (by omega)
 rw [J5,abG,J5,abG,J5,e3]
def W5 (_:W6):Bool:=true
def acZ (x:W6):OT zo.Y:=.ok ⟨RT,((iB x.1.1,()),())⟩
theorem ayx:aa aj 120 (zo.az W5 acZ):=amt _ _ λx oy hp ho=>by
 rw [<-ho]
 clear ho
 obtain ⟨⟨a,⟨⟩⟩,⟨⟩⟩:=x
 simp only [acZ,ax0]
 rfl
def D9:bx:=(zo.az W5 acZ)
theorem acY:aa aj 120 D9:=ayx
theorem acX:ax D9:=av
def au8:Env:=aq 120 D9 aBN
theorem L0:bU aj te au8:=aU follows ajb acY acX
def kM:af:=⟨kT,[],true,0,false⟩
abbrev BO:Type:=aik
def amp:Shape:=⟨12,[Cj,(4,im),(5,aD),(6,aD)],uq,0,true⟩
abbrev dZ:Type:=ry×zV
def nJ:Shape:=⟨12,[Cj,(4,im)],uq,0,true⟩
abbrev qx:Type:=mT
def ams (a5:Int) (a6:Int) (c0:ap) (c1:ap):OT (Sum dZ aZ):=
 let z0:Nat:=List.length c0
 let z1:ab:=iB {w0:=List.getD c0 0 0,w1:=List.getD c0 1 0,w2:=List.getD c0 2 0,w3:=List.getD c0 3 0}
 (.br (decide (a6<a5))
 (gd [decide (4<=z0),decide ((4/1:Nat)+0<=z0),inR (a6+(1:Int))] (.ok (.inl (((),(),a5,a6+(1:Int),()),List.set (List.set (List.set (List.set c0 0 z1.w0) 1 z1.w1) 2 z1.w2) 3 z1.w3,c1,()))))
 (.ok (.inr ⟨(.exit 0,nJ),(((),(),()),c0,c1,())⟩)))
def vN (s:dZ):OT (Sum dZ aZ):=ams s.1.2.2.1 s.1.2.2.2.1 s.2.1 s.2.2.1
def Od (g0_0:dZ->qx) (s:dZ):OT aZ:=(.ok ⟨(.exit 0,nJ),g0_0 s⟩)
def oI:aL:=⟨il,[],false⟩
section
variable (ok0:dZ->Bool) (g0_0:dZ->qx)
def W2 (a0:ab) (a1:Int):OT kM.Y:=
 let z0:dZ:=(((),(),a1,(0:Int),()),[a0.w0,a0.w1,a0.w2,a0.w3],[(0:UInt64),(0:UInt64),(0:UInt64),(0:UInt64)],())
 let z1:=(g0_0 z0).snd
 let z2:=z1.fst
 let z3:=z1.snd.fst
 let z4:ap:=lay z3 z2 4 (0:UInt64)
 (gd [ok0 z0,decide (4<=List.length z2),decide ((4/1:Nat)+0<=List.length z3),decide (4<=List.length z4)] (.ok ⟨oI,(({w0:=List.getD z4 0 0,w1:=List.getD z4 1 0,w2:=List.getD z4 2 0,w3:=List.getD z4 3 0},()),())⟩))
theorem W1 (h0:bh vN ok0 (Od g0_0)) (pre:BO->Bool) (F:BO->OT kM.Y) (hF:∀ (x:BO) oy,pre x=true->(F x).run=some oy->(W2 ok0 g0_0 x.1.1 x.1.2.1).run=some oy):aa aj 176 (kM.az pre F):=
 dh L0 176 Tryz.f176 kM [oI] (kZ L0 0 amp [(0,nJ)] none none vN bE h0 bE) (λx=>W2 ok0 g0_0 x.1.1 x.1.2.1) hF
end
def jp (a:ab) (n:Nat):ab:=ofN (a.nat/2^n)
theorem J3 (a:ab):∀ n,upto (λ_ e=>iB e) a n=jp a n
 |0=>by
  show a=ofN (a.nat/2^0)
  rw [Nat.pow_zero,Nat.div_one,A5]
 |n+1=>by
  show iB (upto (λ_ e=>iB e) a n)=_
  rw [J3 a n]
  unfold iB jp
  have:=jj a
  have h2:a.nat/2^n<=a.nat:=Nat.div_le_self _ _
  rw [n7 (by omega),Nat.div_div_eq_div_mul,<-Nat.pow_succ]
def Ku (s:dZ):Bool:=decide (s.1.2.2.2.1=0/\0<=s.1.2.2.1/\s.1.2.2.1<=1000000/\s.2.1.length=4)
def Oc (s:dZ):qx:=(((),(),()),lst (jp (elemOf s.2.1) s.1.2.2.1.toNat),s.2.2.1,())
theorem amr:bh vN Ku (Od Oc):=by
 rintro ⟨⟨⟨⟩,⟨⟩,k,i,⟨⟩⟩,⟨l,o,⟨⟩⟩⟩ h
 have h':=bn h
 dsimp only at h'
 obtain ⟨rfl,h0,h1,hl⟩:=h'
 obtain ⟨a,rfl⟩:∃ a,l=lst a:=⟨elemOf l,(cN hl).symm⟩
 have:=(bf (T:=vN) (λi a=>((((),(),k,(i:Int),()),lst a,o,()):dZ)) (λ_ e=>iB e)
  (λa=>(⟨(.exit 0,nJ),(((),(),()),lst a,o,())⟩:aZ)) k.toNat a (λ_ _=>True) trivial (λi a hi _=>⟨?_,trivial⟩) (λa _=> ?_)).1
 ·rw [J3] at this
  obtain ⟨m,hm⟩:=this
  exact ⟨m,_,hm,rfl⟩
 ·refine (OT.ak (ag (by dsimp only;omega))).trans ((ae ?_).trans rfl)
  simp only [aA,aI,aJ,aw]
  exact ⟨rfl,rfl,aS (by omega)⟩
 ·exact OT.au (bq (by dsimp only;omega))
def qw (x:BO):Bool:=decide (0<=x.1.2.1/\x.1.2.1<=1000000)
def W4 (x:BO):OT kM.Y:=.ok ⟨oI,((jp x.1.1 x.1.2.1.toNat,()),())⟩
theorem amq:aa aj 176 (kM.az qw W4):=W1 Ku Oc amr _ _ λx oy hp ho=>by
 rw [<-ho]
 clear ho
 obtain ⟨⟨a,k,⟨⟩⟩,⟨⟩⟩:=x
 have hp':0<=k/\k<=1000000:=bn hp
 refine (ae ?_).trans ?_
 ·simp only [aA,aI,aJ,aw]
  exact ⟨ag ⟨rfl,hp'.1,hp'.2,rfl⟩,rfl,rfl,rfl⟩
 ·show some (⟨oI,((elemOf (lay [0,0,0,0] (lst (jp a k.toNat)) 4 0),()),())⟩:kM.Y)=some ⟨oI,((jp a k.toNat,()),())⟩
  rw [aH6 _ _ rfl rfl]
  rfl
def tL:bx:=(kM.az qw W4)
theorem RS:aa aj 176 tL:=amq
theorem RR:ax tL:=av
def Ze:Env:=aq 176 tL au8
theorem Af:bU aj te Ze:=aU follows L0 RS RR
def bB (k:ab):Bool:=(k.w0==0&&(k.w1==0&&(k.w2==0&&(k.w3==0&&true))))
def aGS (k:ab):Bool:=(k.w0&&&1==1)
theorem dF (k:ab):bB k=Nat.beq k.nat 0:=by
 unfold bB Sx.ab.nat
 have e:∀ x:UInt64,(x==0)=decide (x.toNat=0):=λx=>by
  by_cases h:x=0
  ·subst h;rfl
  ·have h':¬x.toNat=0:=λh'=>h (UInt64.toNat_inj.1 h')
   rw [bq h']
   simpa using h
 rw [e,e,e,e]
 generalize k.w0.toNat=a
 generalize k.w1.toNat=b
 generalize k.w2.toNat=c
 generalize k.w3.toNat=d
 by_cases h:a=0/\b=0/\c=0/\d=0
 ·obtain ⟨rfl,rfl,rfl,rfl⟩:=h
  rfl
 ·have h1:¬(a+18446744073709551616*(b+18446744073709551616*(c+18446744073709551616*d))=0):=λh1=>h (by omega)
  have h2:Nat.beq (a+18446744073709551616*(b+18446744073709551616*(c+18446744073709551616*d))) 0=false:=by
   cases hb:Nat.beq (a+18446744073709551616*(b+18446744073709551616*(c+18446744073709551616*d))) 0
   ·rfl
   ·exact absurd (aY hb) h1
  rw [h2]
  by_cases ha:a=0
  ·by_cases hb:b=0
   ·by_cases hc:c=0
    ·have hd:¬d=0:=λhd=>h ⟨ha,hb,hc,hd⟩
     simp [hd]
    ·simp [hc]
   ·simp [hb]
  ·simp [ha]
theorem axc (k:ab):aGS k=Nat.beq (k.nat%2) 1:=by
 have e:(k.w0&&&1).toNat=k.w0.toNat%2:=by
  rw [UInt64.toNat_and]
  exact Nat.and_two_pow_sub_one_eq_mod k.w0.toNat 1
 have e2:k.nat%2=k.w0.toNat%2:=by
  unfold Sx.ab.nat
  rw [abG]
 rw [e2,<-e]
 unfold aGS
 by_cases h:k.w0&&&1=1
 ·rw [h];rfl
 ·have h':¬(k.w0&&&1).toNat=1:=λh'=>h (UInt64.toNat_inj.1 h')
  have h2:Nat.beq (k.w0&&&1).toNat 1=false:=by
   cases hb:Nat.beq (k.w0&&&1).toNat 1
   ·rfl
   ·exact absurd (aY hb) h'
  rw [h2]
  simpa using h
theorem Wy (k:ab):(iB k).nat=k.nat/2:=by
 have:=jj k
 exact n7 (by omega)
def awX (p:Nat):Nat->ab->ab->ab->ab
 |0,o,_,_=>o
 |n+1,o,x,k=>cond (bB k) o (awX p n (cond (aGS k) (aR p o x) o) (aR p x x) (iB k))
def aAe (p:Nat):Nat->Nat->Nat->Nat->Nat
 |0,o,_,_=>o
 |n+1,o,x,k=>cond (Nat.beq k 0) o (aAe p n (cond (Nat.beq (k%2) 1) (o*x%p) o) (x*x%p) (k/2))
theorem apC {p:Nat} (hp:0<p/\p<57896044618658097711785492504343953926634992332820282019728792003956564819968):∀ (n:Nat) (o x k:ab),awX p n o x k=ofN (aAe p n o.nat x.nat k.nat)
 |0,o,x,k=>(A5 o).symm
 |n+1,o,x,k=>by
  have e:∀ a b:ab,(aR p a b).nat=a.nat*b.nat%p:=λa b=>cr hp
  simp only [awX,aAe,dF,axc]
  cases Nat.beq k.nat 0
  ·simp only [aT]
   rw [apC hp n,e,Wy]
   cases Nat.beq (k.nat%2) 1
   ·rfl
   ·simp only [aK,e]
  ·simp only [aK]
   exact (A5 o).symm
def ln (p:Nat) (a k:ab):ab:=cond (Nat.beq p 0) ⟨0,0,0,0⟩ (ofN (aAe p 256 1 (a.nat%p) k.nat))
theorem R5 {p:Nat} (hp:0<p) (a k:ab):ln p a k=ofN (aAe p 256 1 (a.nat%p) k.nat):=by
 unfold ln
 cases p with
 |zero=>exact absurd hp (Nat.lt_irrefl _)
 |succ p=>rfl
def wX:af:=⟨LM,[],true,0,false⟩
abbrev ac2:Type:=LG
def aD3:Shape:=⟨40,[ej,uo,(6,fV),(7,gn),(9,Cr)],[iE,o3,lx,(3,OX),Cl],0,true⟩
abbrev jv:Type:=(Unit×LB)×ap×ap×ap×MF×ul
def BP:Shape:=⟨40,[jO,(9,im)],uq,0,true⟩
abbrev Ec:Type:=mT
def aD5 (c0:ap) (c1:ap) (c2:ap) (c3_0:UInt64) (c3_1:UInt64) (c3_2:UInt64) (c3_3:UInt64) (c3_4:Int) (c3_5:UInt64) (c3_6:UInt64) (c3_7:UInt64) (c3_8:UInt64) (c3_9:UInt64) (c3_10:UInt64) (c4:ap):OT (Sum jv aZ):=
 let z0:Nat:=List.length c1
 let z1:Bool:=decide (4<=z0)
 let z2:UInt64:=List.getD c1 0 0
 let z3:UInt64:=List.getD c1 1 0
 let z4:UInt64:=List.getD c1 2 0
 let z5:UInt64:=List.getD c1 3 0
 let z6:Nat:=List.length c4
 let z7:Nat:=List.length c0
 let z8:Bool:=decide (4<=z7)
 let z9:ab:= {w0:=c3_0,w1:=c3_1,w2:=c3_2,w3:=c3_3}
 let z10:iR:=(z9,c3_4,c3_5,c3_6,{w0:=c3_7,w1:=c3_8,w2:=c3_9,w3:=c3_10})
 let z11:ab:= {w0:=List.getD c4 0 0,w1:=List.getD c4 1 0,w2:=List.getD c4 2 0,w3:=List.getD c4 3 0}
 let z12:ab:= {w0:=List.getD c0 0 0,w1:=List.getD c0 1 0,w2:=List.getD c0 2 0,w3:=List.getD c0 3 0}
 let z13:rq:=(z12,())
 let z14:Bool:=gO ((z10,z12,z13),())
 let z15:Bool:=decide ((4/1:Nat)+0<=z7)
 let z16:Bool:=decide ((4/1:Nat)+0<=z0)
 let z17:Nat:=ab.nat z9
 let z18:ab:=aR z17 z12 z12
 let z19:ap:=List.set (List.set (List.set (List.set c0 0 z18.w0) 1 z18.w1) 2 z18.w2) 3 z18.w3
 let z20:ab:=iB {w0:=z2,w1:=z3,w2:=z4,w3:=z5}
 let z21:ap:=List.set (List.set (List.set (List.set c1 0 z20.w0) 1 z20.w1) 2 z20.w2) 3 z20.w3
 let z22:ab:=aR z17 z11 z12
 (gd [z1] (.br (!(z2==(0:UInt64)&&(z3==(0:UInt64)&&(z4==(0:UInt64)&&(z5==(0:UInt64)&&true)))))
 (gd [decide (0<z0)] (.br (z2&&&(1:UInt64)==(1:UInt64))
  (gd [decide (4<=z6),z8,gO ((z10,z11,z13),()),decide ((4/1:Nat)+0<=z6),z8,z8,z14,z15,z1,z16] (.ok (.inl (((),(),(),(),(),()),z19,z21,c2,(c3_0,c3_1,c3_2,c3_3,c3_4,c3_5,c3_6,c3_7,c3_8,c3_9,c3_10,()),List.set (List.set (List.set (List.set c4 0 z22.w0) 1 z22.w1) 2 z22.w2) 3 z22.w3,()))))
  (gd [z8,z8,z14,z15,z1,z16] (.ok (.inl (((),(),(),(),(),()),z19,z21,c2,(c3_0,c3_1,c3_2,c3_3,c3_4,c3_5,c3_6,c3_7,c3_8,c3_9,c3_10,()),c4,()))))))
 (.ok (.inr ⟨(.exit 0,BP),(((),(),()),c2,c4,())⟩))))
def RV (s:jv):OT (Sum jv aZ):=aD5 s.2.1 s.2.2.1 s.2.2.2.1 s.2.2.2.2.1.1 s.2.2.2.2.1.2.1 s.2.2.2.2.1.2.2.1 s.2.2.2.2.1.2.2.2.1 s.2.2.2.2.1.2.2.2.2.1 s.2.2.2.2.1.2.2.2.2.2.1 s.2.2.2.2.1.2.2.2.2.2.2.1 s.2.2.2.2.1.2.2.2.2.2.2.2.1 s.2.2.2.2.1.2.2.2.2.2.2.2.2.1 s.2.2.2.2.1.2.2.2.2.2.2.2.2.2.1 s.2.2.2.2.1.2.2.2.2.2.2.2.2.2.2.1 s.2.2.2.2.2.1
def ash (g0_0:jv->Ec) (s:jv):OT aZ:=(.ok ⟨(.exit 0,BP),g0_0 s⟩)
def Eb:aL:=⟨il,[],false⟩
section
variable (ok0:jv->Bool) (g0_0:jv->Ec)
def aAJ (a0:Int) (a1:ab) (a2:ab):OT wX.Y:=
 let z0:iR:=numOf (Int.toNat a0)
 let z1:=z0.fst
 let z2:ab:=ofN (ab.nat a1%ab.nat z1)
 let z3:=z0.snd
 let z4:=z3.snd
 let z5:=z4.snd
 let z6:=z5.snd
 let z7:jv:=(((),(),(),(),(),()),[z2.w0,z2.w1,z2.w2,z2.w3],[a2.w0,a2.w1,a2.w2,a2.w3],[(0:UInt64),(0:UInt64),(0:UInt64),(0:UInt64)],(z1.w0,z1.w1,z1.w2,z1.w3,z3.fst,z4.fst,z5.fst,z6.w0,z6.w1,z6.w2,z6.w3,()),[(1:UInt64),(0:UInt64),(0:UInt64),(0:UInt64)],())
 let z8:=(g0_0 z7).snd
 let z9:=z8.snd.fst
 let z10:=z8.fst
 let z11:ap:=lay z10 z9 4 (0:UInt64)
 (.br (ac a0)
 (gd [ii ((z0,a1,()),()),ok0 z7,decide (4<=List.length z9),decide ((4/1:Nat)+0<=List.length z10),decide (4<=List.length z11)] (.ok ⟨Eb,(({w0:=List.getD z11 0 0,w1:=List.getD z11 1 0,w2:=List.getD z11 2 0,w3:=List.getD z11 3 0},()),())⟩))
 (.ok ⟨Eb,(({w0:=0,w1:=0,w2:=0,w3:=0},()),())⟩))
theorem ase (h0:bh RV ok0 (ash g0_0)) (pre:ac2->Bool) (F:ac2->OT wX.Y) (hF:∀ (x:ac2) oy,pre x=true->(F x).run=some oy->(aAJ ok0 g0_0 x.1.1 x.1.2.1 x.1.2.2.1).run=some oy):aa aj 69 (wX.az pre F):=
 dh Af 69 Tryz.f69 wX [Eb] (kZ Af 0 aD3 [(0,BP)] none none RV bE h0 bE) (λx=>aAJ ok0 g0_0 x.1.1 x.1.2.1 x.1.2.2.1) hF
end
theorem asf {x0 x1 x2 x3 x5 x6 x7 x8 x9 x10:UInt64} {x4:Int} {c2:List UInt64} (hn:lf (⟨x0,x1,x2,x3⟩,x4,x5,x6,⟨x7,x8,x9,x10⟩)=true):∀ (n:Nat) (o x k:ab),k.nat<2^n->
 ∃ m,cU RV m (((),(),(),(),(),()),lst x,lst k,c2,(x0,x1,x2,x3,x4,x5,x6,x7,x8,x9,x10,()),lst o,())=some ⟨(.exit 0,BP),(((),(),()),c2,lst (awX (ab.mk x0 x1 x2 x3).nat n o x k),())⟩:=by
 intro n
 induction n with
 |zero=>
  intro o x k hk
  have hz:(!bB k)=false:=by
   rw [dF,show k.nat=0 by omega]
   rfl
  exact ⟨1,aV ((ae rfl).trans (OT.au hz))⟩
 |succ n ih=>
  intro o x k hk
  cases hz:bB k
  ·have hk2:(iB k).nat<2^n:=by
    rw [Wy]
    rw [Nat.pow_succ] at hk
    omega
   have hz':(!bB k)=true:=by rw [hz];rfl
   cases ho:aGS k
   ·obtain ⟨m,hm⟩:=ih o (aR (ab.mk x0 x1 x2 x3).nat x x) (iB k) hk2
    simp only [awX,hz,ho,aT]
    refine ⟨m+1,bL ?_ hm⟩
    refine (ae rfl).trans ((OT.ak hz').trans ((ae rfl).trans ((OT.au ho).trans ((ae ?_).trans rfl))))
    simp only [aA,aI,aJ,aw]
    exact ⟨rfl,rfl,hn,rfl,rfl,rfl⟩
   ·obtain ⟨m,hm⟩:=ih (aR (ab.mk x0 x1 x2 x3).nat o x) (aR (ab.mk x0 x1 x2 x3).nat x x) (iB k) hk2
    simp only [awX,hz,ho,aT,aK]
    refine ⟨m+1,bL ?_ hm⟩
    refine (ae rfl).trans ((OT.ak hz').trans ((ae rfl).trans ((OT.ak ho).trans ((ae ?_).trans rfl))))
    simp only [aA,aI,aJ,aw]
    exact ⟨rfl,rfl,hn,rfl,rfl,rfl,hn,rfl,rfl,rfl⟩
  ·simp only [awX,hz,aK]
   have hz':(!bB k)=false:=by rw [hz];rfl
   exact ⟨1,aV ((ae rfl).trans (OT.au hz'))⟩
def aHM (s:jv):MH:=(⟨s.2.2.2.2.1.1,s.2.2.2.2.1.2.1,s.2.2.2.2.1.2.2.1,s.2.2.2.2.1.2.2.2.1⟩,s.2.2.2.2.1.2.2.2.2.1,s.2.2.2.2.1.2.2.2.2.2.1,s.2.2.2.2.1.2.2.2.2.2.2.1,⟨s.2.2.2.2.1.2.2.2.2.2.2.2.1,s.2.2.2.2.1.2.2.2.2.2.2.2.2.1,s.2.2.2.2.1.2.2.2.2.2.2.2.2.2.1,s.2.2.2.2.1.2.2.2.2.2.2.2.2.2.2.1⟩)
def RU (s:jv):Bool:=lf (aHM s)&&decide (s.2.1.length=4/\s.2.2.1.length=4/\s.2.2.2.2.2.1.length=4)
def asg (s:jv):Ec:=(((),(),()),s.2.2.2.1,lst (awX (aHM s).1.nat 256 (elemOf s.2.2.2.2.2.1) (elemOf s.2.1) (elemOf s.2.2.1)),())
theorem aD4:bh RV RU (ash asg):=by
 rintro ⟨⟨⟨⟩,⟨⟩,⟨⟩,⟨⟩,⟨⟩,⟨⟩⟩,⟨c0,c1,c2,⟨x0,x1,x2,x3,x4,x5,x6,x7,x8,x9,x10,⟨⟩⟩,c4,⟨⟩⟩⟩ h
 simp only [RU,aw,decide_eq_true_eq,aHM] at h
 obtain ⟨hn,h0,h1,h4⟩:=h
 obtain ⟨x,rfl⟩:∃ a,c0=lst a:=⟨elemOf c0,(cN h0).symm⟩
 obtain ⟨k,rfl⟩:∃ a,c1=lst a:=⟨elemOf c1,(cN h1).symm⟩
 obtain ⟨o,rfl⟩:∃ a,c4=lst a:=⟨elemOf c4,(cN h4).symm⟩
 obtain ⟨m,hm⟩:=asf (c2:=c2) hn 256 o x k (jj k)
 exact ⟨m,_,hm,rfl⟩
def ahk (_:ac2):Bool:=true
def aAK (x:ac2):OT wX.Y:=.br (ac x.1.1) (.ok ⟨Eb,((ln (pS x.1.1) x.1.2.1 x.1.2.2.1,()),())⟩) (.ok ⟨Eb,((⟨0,0,0,0⟩,()),())⟩)
theorem ayz {p:Nat} (hp:0<p/\p<57896044618658097711785492504343953926634992332820282019728792003956564819968) (a k:ab):elemOf (lay [0,0,0,0] (lst (awX p 256 ⟨1,0,0,0⟩ (ofN (a.nat%p)) k)) 4 0)=ln p a k:=by
 rw [aH6 _ _ rfl rfl,amI,apC hp,cr hp,R5 hp.1]
 rfl
theorem asd:aa aj 69 (wX.az ahk aAK):=ase RU asg aD4 _ _ λx oy hp ho=>by
 rw [<-ho]
 clear ho
 obtain ⟨⟨s,a,k,⟨⟩⟩,⟨⟩⟩:=x
 cases hs:ac s
 ·exact (OT.au hs).trans (OT.au (b:=ac s) hs).symm
 ·have hn:=ji hs
  have hfin:=ayz (eK hs) a k
  have hn2:lf (numOf s.toNat)=true:=hn
  refine (OT.ak hs).trans (Eq.trans ?_ (OT.ak (b:=ac s) hs).symm)
  simp only [<-hfin]
  refine (ae ?_).trans rfl
  simp only [aA,aI,aJ,aw]
  refine ⟨hn,?_,rfl,rfl,rfl⟩
  show (lf _&&decide _)=true
  rw [aw]
  exact ⟨hn,ag ⟨rfl,rfl,rfl⟩⟩
def Kv:bx:=(wX.az ahk aAK)
theorem amv:aa aj 69 Kv:=asd
theorem amu:ax Kv:=av
def aBQ:Env:=aq 69 Kv Ze
theorem ajd:bU aj te aBQ:=aU follows Af amv amu
def wW:af:=⟨[aD,du],[],true,0,false⟩
abbrev acV:Type:=aij
def qv:aL:=⟨kT,[],false⟩
def aAH (a0:Int) (a1:ab):OT wW.Y:=
 let z0:Bool:=ac a0
 let z1:iR:=numOf (Int.toNat a0)
 let z2:=z1.fst
 let z3:ab:=ofN (ab.nat a1%ab.nat z2)
 let z4:ab:= {w0:=0,w1:=0,w2:=0,w3:=0}
 (.br (z0)
 (gd [ii ((z1,a1,()),())] (.br (z3.w0==(0:UInt64)&&(z3.w1==(0:UInt64)&&(z3.w2==(0:UInt64)&&(z3.w3==(0:UInt64)&&true))))
  (.ok ⟨qv,((z4,(10:Int),()),())⟩)
  (.br (z0)
   (.ok ⟨qv,((ln (pS a0) a1 (m5 z2 {w0:=2,w1:=0,w2:=0,w3:=0}).fst,(0:Int),()),())⟩)
   (.ok ⟨qv,((z4,(0:Int),()),())⟩))))
 (.ok ⟨qv,((z4,(20:Int),()),())⟩))
theorem ar9 (pre:acV->Bool) (F:acV->OT wW.Y) (hF:∀ (x:acV) oy,pre x=true->(F x).run=some oy->(aAH x.1.1 x.1.2.1).run=some oy):aa aj 68 (wW.az pre F):=
 dh ajd 68 Tryz.f68 wW [qv] bE (λx=>aAH x.1.1 x.1.2.1) hF
def CC (p:Nat) (a:ab):ab:=ofN (aAe p 256 1 (a.nat%p) (p-2))
theorem aFE {s:Int} (h:ac s=true):2<=pS s:=by
 rcases cb h with rfl|rfl|rfl|rfl<;>decide+kernel
theorem aDK {s:Int} (h:ac s=true) (a:ab):ln (pS s) a (m5 (numOf s.toNat).1 ⟨2,0,0,0⟩).1=CC (pS s) a:=by
 rw [R5 (eK h).1]
 unfold CC
 have h2:2<=(numOf s.toNat).1.nat:=aFE h
 rw [Ao (show (ab.mk 2 0 0 0).nat<=_ from h2)]
 rfl
theorem avw {p:Nat} (hp:0<p/\p<57896044618658097711785492504343953926634992332820282019728792003956564819968) (n:Nat):bB (ofN (n%p))=Nat.beq (n%p) 0:=by
 rw [dF,cr hp]
def ahj (_:acV):Bool:=true
def aAI (x:acV):OT wW.Y:=.br (ac x.1.1) (.br (Nat.beq (x.1.2.1.nat%pS x.1.1) 0) (.ok ⟨qv,((⟨0,0,0,0⟩,(10:Int),()),())⟩) (.ok ⟨qv,((CC (pS x.1.1) x.1.2.1,(0:Int),()),())⟩))
 (.ok ⟨qv,((⟨0,0,0,0⟩,(20:Int),()),())⟩)
theorem ar8:aa aj 68 (wW.az ahj aAI):=ar9 _ _ λx oy hp ho=>by
 rw [<-ho]
 clear ho
 obtain ⟨⟨s,a,⟨⟩⟩,⟨⟩⟩:=x
 cases hs:ac s
 ·exact (OT.au hs).trans (OT.au (b:=ac s) hs).symm
 ·have hz:bB (ofN (a.nat%pS s))=Nat.beq (a.nat%pS s) 0:=avw (eK hs) _
  refine (OT.ak hs).trans (Eq.trans ((ae ?_).trans ?_) (OT.ak (b:=ac s) hs).symm)
  ·simp only [aA,aI,aJ]
   exact ji hs
  ·cases hb:Nat.beq (a.nat%pS s) 0
   ·rw [hb] at hz
    refine (OT.au hz).trans ((OT.ak hs).trans (Eq.trans ?_ (OT.au rfl).symm))
    simp only [aDK hs]
   ·rw [hb] at hz
    exact (OT.ak hz).trans (OT.ak rfl).symm
def Ks:bx:=(wW.az ahj aAI)
theorem amo:aa aj 68 Ks:=ar8
theorem amn:ax Ks:=av
def aBP:Env:=aq 68 Ks aBQ
theorem ajc:bU aj te aBP:=aU follows ajd amo amn
def qM:af:=⟨jG,[],true,0,false⟩
abbrev KX:Type:=oW
def jC:aL:=⟨[du,rA],[],false⟩
def ahJ (a0:Int):OT qM.Y:=
 let z0:ab:= {w0:=5,w1:=0,w2:=0,w3:=0}
 let z1:ab:= {w0:=0,w1:=0,w2:=0,w3:=0}
 (.br (a0==(0:Int))
 (.ok ⟨jC,(({w0:=23,w1:=0,w2:=0,w3:=0},true,()),())⟩)
 (.br (a0==(1:Int))
  (.ok ⟨jC,(({w0:=21,w1:=0,w2:=0,w3:=0},true,()),())⟩)
  (.br (a0==(2:Int))
   (.br (a0==(2:Int))
    (.ok ⟨jC,((z0,true,()),())⟩)
    (.ok ⟨jC,((z1,false,()),())⟩))
   (.br (a0==(3:Int))
    (.ok ⟨jC,((z0,true,()),())⟩)
    (.ok ⟨jC,((z1,false,()),())⟩)))))
theorem adD (pre:KX->Bool) (F:KX->OT qM.Y) (hF:∀ (x:KX) oy,pre x=true->(F x).run=some oy->(ahJ x.1.1).run=some oy):aa aj 110 (qM.az pre F):=
 dh ajc 110 Tryz.f110 qM [jC] bE (λx=>ahJ x.1.1) hF
def bOf:Nat->ab
 |0=>⟨23,0,0,0⟩
 |1=>⟨21,0,0,0⟩
 |_=>⟨5,0,0,0⟩
abbrev bS (s:Int):ab:=bOf s.toNat
def OA (_:KX):Bool:=true
def ahK (x:KX):OT qM.Y:=.br (ac x.1.1) (.ok ⟨jC,((bS x.1.1,true,()),())⟩) (.ok ⟨jC,((⟨0,0,0,0⟩,false,()),())⟩)
theorem atd:aa aj 110 (qM.az OA ahK):=adD _ _ λx oy _ ho=>by
 rw [<-ho]
 clear ho
 obtain ⟨⟨s,⟨⟩⟩,⟨⟩⟩:=x
 cases hs:ac s
 ·obtain ⟨h0,h1,h2,h3⟩:=MW hs
  exact (OT.au h0).trans ((OT.au h1).trans ((OT.au h2).trans ((OT.au h3).trans (OT.au (b:=ac s) hs).symm)))
 ·rcases cb hs with h|h|h|h
  all_goals
   have h:s=_:=h
   subst h
   rfl
def zE:bx:=(qM.az OA ahK)
theorem XQ:aa aj 110 zE:=atd
theorem XP:ax zE:=av
def ajm:Env:=aq 110 zE aBP
theorem Pj:bU aj te ajm:=aU follows ajc XQ XP
def KU:af:=⟨[],[],true,0,false⟩
abbrev as4:Type:=b8
def adv:aL:=⟨oZ,[],false⟩
def aAV:OT KU.Y:=
 let z0:ab:= {w0:=0,w1:=0,w2:=0,w3:=0}
 (.ok ⟨adv,(((z0,z0,true),()),())⟩)
theorem as3 (pre:as4->Bool) (F:as4->OT KU.Y) (hF:∀ (x:as4) oy,pre x=true->(F x).run=some oy->(aAV).run=some oy):aa aj 111 (KU.az pre F):=
 dh Pj 111 Tryz.f111 KU [adv] bE (λx=>aAV) hF
def aM:cI:=(⟨0,0,0,0⟩,⟨0,0,0,0⟩,true)
def ahH (_:as4):Bool:=true
def aAW (_:as4):OT KU.Y:=.ok ⟨adv,((aM,()),())⟩
theorem aEy:aa aj 111 (KU.az ahH aAW):=as3 _ _ λx oy _ ho=>ho
def KT:bx:=(KU.az ahH aAW)
theorem amY:aa aj 111 KT:=aEy
theorem amX:ax KT:=av
def aBV:Env:=aq 111 KT ajm
theorem ajl:bU aj te aBV:=aU follows Pj amY amX
end
end Go.Proofs.YthnnknnbfhkomaaGreat
