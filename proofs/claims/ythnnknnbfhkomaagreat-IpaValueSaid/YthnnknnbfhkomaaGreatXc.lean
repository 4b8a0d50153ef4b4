/- A symbolic machine for Go code over plain data, and functions of the program as it shows them. No statement is proved in this file. -/
import Derived.Recover
import Derived.KernelRfl
import Derived.Test.YthnnknnbfhkomaaGreatProg
import Derived.Laws.Externs
import Derived.Lib.Mul64
import Derived.Test.YthnnknnbfhkomaaGreatXb
set_option linter.unusedSimpArgs false
set_option linter.unusedVariables false
set_option linter.unusedSectionVars false
namespace Go.Proofs.YthnnknnbfhkomaaGreat
section
namespace Sx
open Go
def axV (args:List SV) (hp:Hp) (a k:Nat):Option Bool:=match args.getD a .gu with
 |.ptr c _ _ off=>match hp c with
  |some ⟨_,.cells vs⟩=>match vs.getD (off+k) .gu with
   |.lst _ _=>some true
   |_=>some false
  |_=>none
 |_=>none
theorem abT {d:Nat} {hp hp':Hp} (hg:Y0 d hp hp') {args:List SV} {a k:Nat} {t:Bool} (h:axV args hp a k=some t):axV args hp' a k=some t:=by
 unfold axV at h⊢
 split at h
 ·split at h
  ·rename_i e vs hc
   rw [hg.me _ _ hc]
   exact h
  ·cases h
 ·cases h
def anz (a k:Nat) (s0 s1:bt):bt:=⟨s0.mod||s1.mod,λd args hp=>match axV args hp a k with
 |some t=>cond t (s1.f d args hp) (s0.f d args hp)
 |none=>.fail⟩
theorem aia {P:Program} {f:FuncId} {a k:Nat} {s0 s1:bt} (h0:aa P f s0) (h1:aa P f s1):aa P f (anz a k s0 s1):=by
 refine ⟨λR w d args vs out hm hr hrun=> ?_⟩
 simp only [anz] at hrun
 split at hrun
 ·rename_i t ht
  cases t
  ·exact h0.calls R w d args vs out hm hr hrun
  ·exact h1.calls R w d args vs out hm hr hrun
 ·cases hrun
theorem OS {a k:Nat} {s0 s1:bt} (h0:ax s0) (h1:ax s1):ax (anz a k s0 s1):=λd args hp hp' out hg hrun=>by
 simp only [anz] at hrun⊢
 split at hrun
 ·rename_i t ht
  rw [abT hg ht]
  dsimp only
  cases t
  ·exact h0 d args hp hp' out hg hrun
  ·exact h1 d args hp hp' out hg hrun
 ·cases hrun
end Sx
end
section
namespace Sx
open Go
theorem akN {R:Ctx} {w:World} (hm:cB R w) {c e:Nat} {t:Ty} {xs:List t.T} (hc:R.hp c=some ⟨e,.row t xs⟩) {n:Nat} (hn:n<=xs.length):
 ∃ R1,R.Ext R1/\cB R1 w/\R1.hp=cQ R.hp [(c,⟨e+1,.row t (xs.take n)⟩)]/\∀ v,R.part c e 0 n v->R1.own c (e+1) v:=by
 have h0:=hm.ch c _ hc
 have hlen:(xs.take n).length=n:=by grind
 have hx:R.Ext (R.upd c ⟨e+1,.row t (xs.take n)⟩):=⟨λ_ _ h=>h,rfl,λc' ch' hc'=>by
  grind [Ctx.upd]⟩
 have hnew:(R.upd c ⟨e+1,.row t (xs.take n)⟩).hp c=some ⟨e+1,.row t (xs.take n)⟩:=by grind [Ctx.upd]
 refine ⟨R.upd c ⟨e+1,.row t (xs.take n)⟩,hx,?_,rfl,λv hv=> ?_⟩
 ·cases hσ:R.σ c with
  |none=>
   simp only [eV,hσ] at h0
   obtain ⟨hpos,hl,rfl⟩:=h0
   refine cB.turn hm hx rfl rfl (λ_ _=>rfl) w.heap.size (by grind) ⟨hm.MZ,hm.MW,λn ch L hn h1 h2 h3=> ?_⟩ ?_ (λL h2=> ?_)
   ·have:=hm.lt h1 h2 h3;omega
   ·grind [eV,Ctx.upd]
   ·have h2:R.σ c=some L:=h2
    grind
  |some L=>
   simp only [eV,hσ] at h0
   obtain ⟨hpos,hl,hF,hU,arr,E,k1,k2,k3,k4⟩:=h0
   refine cB.turn hm hx rfl rfl (λ_ _=>rfl) L.block (by grind) ⟨hF,hU,λm ch L' hne h1 h2 h3 hb=> ?_⟩ ?_ (λL' h2=> ?_)
   ·exact hne (hm.apart m c ch _ L' L h1 hc h2 rfl h3 hσ hb)
   ·simp only [eV,Ctx.upd,hσ]
    refine ⟨hpos,by grind,hF,hU,arr,E,k1,k2,?_,λi hi=> ?_⟩
    ·rw [hlen]
     exact cV (cl _ hn) k3
    ·grind
   ·have h2:R.σ c=some L':=h2
    grind
 ·obtain ⟨h1,h2,ad,cap,rfl,h4,h5⟩:=Ctx.cM hc hv
  refine ⟨_,hnew,Nat.le_refl _,λ_=>⟨_,hnew,Nat.le_refl _,λ_=>⟨rfl,?_,ad,cap,?_,?_,?_⟩⟩⟩
  ·simp
  ·show Value.slice ad n cap=.slice ad (xs.take n).length cap
   rw [hlen]
  ·show (xs.take n).length<=cap
   omega
  ·exact h5
def ahU:List SV->Option (Nat×Nat×Nat)
 | []=>none
 |.part c e 0 n::_=>some (c,e,n)
 |_::r=>ahU r
def KY:List SV->List SV
 | []=> []
 |.part c e 0 _::r=>.own c (e+1)::r
 |x::r=>x::KY r
def atd (K:SV->Hp->Prop) (l r:List SV) (hp:Hp):Prop:=match ahU l with
 |some (c,e,n)=>match ec hp c e with
  |some (.row t xs)=>cond (Nat.ble n xs.length) (K (.tup (.agg (KY l)::r)) (cQ hp [(c,⟨e+1,.row t (xs.take n)⟩)])) False
  |_=>False
 |none=>K (.tup (.agg l::r)) hp
def aEZ (K:SV->Hp->Prop) (v:SV) (hp:Hp):Prop:=match v with
 |.tup (.agg l::r)=>atd K l r hp
 |v=>K v hp
theorem am9 {K K':SV->Hp->Prop} (h:∀ v hp,K v hp->K' v hp) {l r:List SV} {hp:Hp} (hk:atd K l r hp):atd K' l r hp:=by
 unfold atd at hk⊢
 split at hk
 ·grind
 grind
theorem atc {K K':SV->Hp->Prop} (h:∀ v hp,K v hp->K' v hp) {v:SV} {hp:Hp} (hk:aEZ K v hp):aEZ K' v hp:=by
 unfold aEZ at hk⊢
 grind [am9]
theorem OH {R R1:Ctx} (hx:R.Ext R1) {c e n:Nat} (ho:∀ v,R.part c e 0 n v->R1.own c (e+1) v):∀ {l:List SV} {vs:List Value},ahU l=some (c,e,n)->SV.bw R l vs->SV.bw R1 (KY l) vs
 | [],_,h,_=>by cases h
 |x::l,vs,h,hr=>by
  obtain ⟨v,r,rfl,hv,hr⟩:=hr
  unfold ahU at h
  split at h
  ·grind
  ·grind [SV.rel,KY,SV.bw,SV.fb]
  ·rename_i x' r' hno h1
   cases h1
   have e1:KY (x::l)=x::KY l:=KY.eq_3 _ _ hno
   rw [e1]
   exact ⟨v,r,rfl,SV.aaQ hx _ _ hv,OH hx ho h hr⟩
theorem aEY {R:Ctx} {w:World} {K:SV->Hp->Prop} {v:SV} {u:Value} (hm:cB R w) (hv:SV.rel R v u) (hk:aEZ K v R.hp):∃ v' R1,R.Ext R1/\cB R1 w/\SV.rel R1 v' u/\K v' R1.hp:=by
 unfold aEZ at hk
 split at hk
 ·unfold atd at hk
  split at hk
  ·rename_i c e n hc
   split at hk
   ·rename_i t xs hg
    cases hb:Nat.ble n xs.length
    ·grind
    ·rw [hb] at hk
     obtain ⟨R1,a1,a2,a3,a4⟩:=akN hm (bU hg) (Nat.le_of_ble_eq_true hb)
     refine ⟨_,R1,a1,a2,?_,by rw [a3];exact hk⟩
     obtain ⟨vs,rfl,v1,r1,rfl,⟨us,rfl,h1,h2⟩,h3⟩:=hv
     exact ⟨_,rfl,_,r1,rfl,⟨us,rfl,OH a1 a4 hc h1,h2⟩,SV.fb a1 _ _ h3⟩
   grind
  grind [Ctx.Ext.refl]
 grind [Ctx.Ext.refl]
section
variable {P:Program} {te:TE} {Φ:Env} (hte:kv P te) (hΦ:oh P Φ) (hany:Gw P te Φ)
include hte hΦ hany
theorem aEv {f:FuncId} {fn:Func} {c:Code} (hf:P.funcs[f]? =some fn) (hb:fn.body=some c) (hname:(fn.name== "runtime.NumGoroutine")=false) {S:af} {k:Nat} (hk:S.chunks.all (λc=>Nat.blt c.1 k&& !c.2.iS)=true) {Λ:Lam}
 (hΛ:∀ R,Small R k->rS P R Λ c) {n:Nat} {pre:S.T->Bool} {F:S.T->OT S.Y}
 (h:∀ x oy,pre x=true->(F x).run=some oy->∃ K,wpf te Φ Λ n fn (S.inp.inj x).tm (S.inp.inj x).hp K (λ_ _=>False)/\(∀ v hp,K v hp->aEZ (λv hp=>oy.1.is oy.2 false v hp) v hp)):aa P f (S.az pre F):=by
 refine ⟨?_⟩
 intro R w d args vs out hm hr hrun
 refine .inl ⟨fn,hf,hname,by rw [hb];rfl,?_⟩
 simp only [af.az] at hrun
 split at hrun
 ·cases hrun
 ·rename_i x hx
  obtain ⟨hpre,h2⟩:=OT.aE hrun
  obtain ⟨oy,h3,h4⟩:=OT.run_bind h2
  unfold af.emit at h4
  dsimp only at h4
  obtain ⟨hend,h5⟩:=OT.aE h4
  obtain ⟨K,hwp,hK1⟩:=h x oy hpre h3
  have hx':=hx
  unfold Shape.prj at hx'
  dsimp only at hx'
  cases hbo:S.inp.LH ⟨args,R.hp⟩ (S.inp.bd ⟨args,R.hp⟩)&&Nat.beq args.length S.inp.n
  ·rw [hbo] at hx';cases hx'
  ·rw [hbo] at hx'
   rw [aw] at hbo
   obtain ⟨hx1,hx2⟩:=aW hx'
   have hlen:args.length=S.inp.n:=aY hbo.2
   have hN:=GP (s:=S.inp) (st:=⟨args,R.hp⟩) (F':=R.BF (S.inp.bd ⟨args,R.hp⟩) S.bJ w) (U':=R.G1 (S.inp.bd ⟨args,R.hp⟩) S.bJ w) hbo.1 hx2 rfl hm (JX hm) (DY hm) acn (JW hm) JV arp hm.env
   have hargs:SV.bw (R.named (R.BF (S.inp.bd ⟨args,R.hp⟩) S.bJ w) (R.G1 (S.inp.bd ⟨args,R.hp⟩) S.bJ w) (S.inp.bd ⟨args,R.hp⟩) (dQ S.chunks x.2)) (S.inp.inj x).tm vs:=
    kG (s:=S.inp) (st:=⟨args,R.hp⟩) hbo.1 hx2 rfl hm (JX hm) (DY hm) hr hx1 (SV.pK (by rw [fM,<-hlen];exact SV.aN hr) λi hi hi'=>by simp [SV.rel])
   have hsm:Small (R.named (R.BF (S.inp.bd ⟨args,R.hp⟩) S.bJ w) (R.G1 (S.inp.bd ⟨args,R.hp⟩) S.bJ w) (S.inp.bd ⟨args,R.hp⟩) (dQ S.chunks x.2)) k:=λc ch hc=>by
    obtain ⟨s,y',g1,g2,g3⟩:=dU hx2 (hc:dQ S.chunks x.2 c=some ch)
    have:=(List.all_eq_true.1 hk) _ g1
    simp only [aw,Bool.not_eq_true'] at this
    refine ⟨dK this.1,?_⟩
    rw [g3]
    cases s<;>first|rfl|(cases this.2;done)
   refine (Hw hte hΦ hany hf hb (hΛ _ hsm) rfl hN hargs hwp).mono λen w' hp=> ?_
   rcases hp with ⟨y,v,R₁,rfl,hx1,hm1,hv,hy⟩|⟨y,v,R₁,rfl,hx1,hm1,hv,hy⟩
   ·replace hy:=hK1 _ _ hy
    obtain ⟨y2,R₂,b1,b2,b4,hy⟩:=aEY hm1 hv hy
    obtain ⟨R',a1,a2⟩:=ahx hm hx hk (hx1.trans b1) b2 b4 hy hend
    rw [hy.1] at h5
    cases h5
    exact ⟨v,R',rfl,a1,a2⟩
   ·exact hy.elim
def aIb (S:af) (sel:SV->Option aL) (Q:S.Y->Prop) (v:SV) (hp:Hp):Prop:=aEZ (fnK S sel Q) v hp
theorem ayR {f:FuncId} {fn:Func} {c:Code} (hf:P.funcs[f]? =some fn) (hb:fn.body=some c) (hname:(fn.name== "runtime.NumGoroutine")=false) {S:af} {k:Nat} (hk:S.chunks.all (λc=>Nat.blt c.1 k&& !c.2.iS)=true) {Λ:Lam}
 (hΛ:∀ R,Small R k->rS P R Λ c) {n:Nat} {sel:SV->Option aL} (hsel:∀ v o,sel v=some o->o.pan=false) {pre:S.T->Bool} {F T:S.T->OT S.Y}
 (h:∀ x Q,wpf te Φ Λ n fn (S.inp.inj x).tm (S.inp.inj x).hp (aIb S sel Q) (λ_ _=>False)=(T x).wpR Q)
 (hF:∀ x oy,pre x=true->(F x).run=some oy->(T x).run=some oy):aa P f (S.az pre F):=by
 refine aEv hte hΦ hany hf hb hname hk hΛ (n:=n) λx oy hp hr=>⟨aIb S sel (λz=>z=oy),?_,λv hp hq=> ?_⟩
 ·rw [h,OT.E9];exact OT.iZ (hF x oy hp hr) rfl
 ·refine atc (λv hp hq=> ?_) hq
  unfold fnK at hq
  split at hq
  ·rename_i o ho
   split at hq
   ·rename_i y hy
    subst hq
    exact ⟨hsel v o ho,hy⟩
   ·exact hq.elim
  ·exact hq.elim
end
end Sx
end
section
namespace Sx
open Go
def aET:Code->Option (Array Oper×(List Oper×Call))
 |.region _ ops false=>match ops.toList.getLast? with
  |some o=>match o.op,o.guard,o.dst with
   |.defer c,none,none=>some (ops,(ops.toList.dropLast,c))
   |_,_,_=>none
  |none=>none
 |_=>none
def azg (st:St) (c:Call):Option (FuncId×List SV):=match c.callee with
 |.value x=>match st.eval x with
  |.fn (.func f) first caps=>some (f,first++c.args.toList.map st.eval++caps)
  |_=>none
 |_=>none
def aFr (te:TE) (Φ:Env):Nat->Code->List (FuncId×Nat)->List SV->St->(Code->List (FuncId×Nat)->List SV->St->Prop)->Prop:=
 λm=>Nat.rec (motive:=λ_=>Code->List (FuncId×Nat)->List SV->St->(Code->List (FuncId×Nat)->List SV->St->Prop)->Prop) (λc fs gs st K=>K c fs gs st)
  (λ_ go c fs gs st K=>match c with
   |.seq a b=>match aET a with
    |some d=>mL te Φ d.1.toList (λe st'=>match e with
     |.normal=>match azg st' d.2.2 with
      |some (f,l)=>go b ((f,l.length)::fs) (l++gs) st' K
      |none=>False
     |_=>False) d.2.1 st
    |none=>match a with
     |.region _ ops false=>mL te Φ ops.toList (λe st'=>match e with
      |.normal=>go b fs gs st' K
      |_=>False) ops.toList st
     |_=>False
   |_=>False) m
structure anU where
 f:FuncId
 t:TypeId
 T:TypeId
 g:Func
 gf:FuncId
def FE (te:TE) (Φ:Env) (n:Nat) (r:anU) (fn:Func) (K Kp:SV->Hp->Prop) (fs:List (FuncId×Nat)):List SV->Option SV->St->Prop:=
 List.rec (motive:=λ_=>List SV->Option SV->St->Prop)
  (λ_ m st=>match m with
   |none=>A4 te fn st λv=>K v st.hp
   |some v=>Kp v st.hp)
  (λd _ go gs m st=>match Nat.beq d.1 r.f with
   |true=>match gs with
    |p::gs'=>ifB (Nat.beq d.2 1) (match m with
     |none=>go gs' none st
     |some v=>match v with
      |.iface t (.agg [.int x])=>ifB (Nat.beq t r.t) (match te r.T with
       |some ti=>ifB (Nat.beq ti.size 1) ((storeCells st.hp [.int x] p).wp λu=>go gs' none ⟨st.tm,cQ st.hp u⟩) False
       |none=>False) False
      |_=>False) False
    | []=>False
   |false=>ifB (Nat.beq d.1 r.gf) (wpf te Φ fV n r.g (gs.take d.2) st.hp (λ_ hp=>go (gs.drop d.2) m ⟨st.tm,hp⟩) (λ_ _=>False)) False) fs
def aFH (te:TE) (Φ:Env) (Λ:Lam) (n:Nat) (r:anU) (m:Nat) (D:Shape) (fn:Func) (args:List SV) (hp:Hp) (K Kp:SV->Hp->Prop):Prop:=
 match fn.body with
 |none=>False
 |some c=>aFr te Φ m c [] [] ⟨args++List.replicate (fn.ntmps-args.length) .undef,hp⟩ λrest fs gs st=>D.on ⟨st.tm++gs,st.hp⟩ λx=>
  wps te Φ Λ n rest ⟨(D.inj x).tm.take st.tm.length,(D.inj x).hp⟩ λe st'=>match e with
   |.normal|.ret=>FE te Φ n r fn K Kp fs ((D.inj x).tm.drop st.tm.length) none st'
   |.pan v=>FE te Φ n r fn K Kp fs ((D.inj x).tm.drop st.tm.length) (some v) st'
   |.exit _=>False
theorem alY {te:TE} {Φ:Env} {n:Nat} {r:anU} {fn:Func} {K Kp:SV->Hp->Prop} {gs:List SV} {m:Option SV} {st:St}:FE te Φ n r fn K Kp [] gs m st=(match m with
 |none=>A4 te fn st λv=>K v st.hp
 |some v=>Kp v st.hp):=rfl
theorem abY {te:TE} {Φ:Env} {n:Nat} {r:anU} {fn:Func} {K Kp:SV->Hp->Prop} {f:FuncId} {k:Nat} {fs:List (FuncId×Nat)} {gs:List SV} {m:Option SV} {st:St}:FE te Φ n r fn K Kp ((f,k)::fs) gs m st=(match Nat.beq f r.f with
 |true=>match gs with
  |p::gs'=>ifB (Nat.beq k 1) (match m with
   |none=>FE te Φ n r fn K Kp fs gs' none st
   |some v=>match v with
    |.iface t (.agg [.int x])=>ifB (Nat.beq t r.t) (match te r.T with
     |some ti=>ifB (Nat.beq ti.size 1) ((storeCells st.hp [.int x] p).wp λu=>FE te Φ n r fn K Kp fs gs' none ⟨st.tm,cQ st.hp u⟩) False
     |none=>False) False
    |_=>False) False
  | []=>False
 |false=>ifB (Nat.beq f r.gf) (wpf te Φ fV n r.g (gs.take k) st.hp (λ_ hp=>FE te Φ n r fn K Kp fs (gs.drop k) m ⟨st.tm,hp⟩) (λ_ _=>False)) False):=rfl
theorem av2 {te:TE} {Φ:Env} {m:Nat} {x y:Code} {fs:List (FuncId×Nat)} {gs:List SV} {st:St} {K:Code->List (FuncId×Nat)->List SV->St->Prop}:aFr te Φ (m+1) (.seq x y) fs gs st K=(match aET x with
 |some d=>mL te Φ d.1.toList (λe st'=>match e with
  |.normal=>match azg st' d.2.2 with
   |some (f,l)=>aFr te Φ m y ((f,l.length)::fs) (l++gs) st' K
   |none=>False
  |_=>False) d.2.1 st
 |none=>match x with
  |.region _ ops false=>mL te Φ ops.toList (λe st'=>match e with
   |.normal=>aFr te Φ m y fs gs st' K
   |_=>False) ops.toList st
  |_=>False):=rfl
structure L8 (P:Program) (r:anU):Prop where
 fn:∃ fn,P.funcs[r.f]? =some fn/\(fn.name== "runtime.NumGoroutine")=false/\fn.body.isNone=false
 ret:∀ (v:Value) (w:World),CallsD P r.f #[v] .returning w λe u' w'=>e=.returned (.tuple #[])/\u'=.returning/\w'=w
 pan:∀ (ad:Addr) (x:Int) (w w':World),(storeVar r.T ad (.int .i64 x)).run P w=.ok () w'->
  CallsD P r.f #[.pointer (some ad)] (.panicking [{v:=.iface r.t (.agg #[.int .i64 x]),recovered:=false}]) w λe u' w''=>e=.returned (.tuple #[])/\u'=.panicking [{v:=.iface r.t (.agg #[.int .i64 x]),recovered:=true}]/\w''=w'
 gfn:P.funcs[r.gf]? =some r.g/\(r.g.name== "runtime.NumGoroutine")=false/\r.g.body.isNone=false
section
variable {P:Program} {te:TE} {Φ:Env}
def rK (R:Ctx):List (FuncId×Nat)->List SV->List Deferred->Prop
 | [],_,ds=>ds= []
 |(f,n)::fs,gs,ds=>∃ d r vs cap,ds=d::r/\d.target=.fn (.func f) cap/\d.args++cap=vs.toArray/\SV.bw R (gs.take n) vs/\rK R fs (gs.drop n) r
theorem rK.grow {R R':Ctx} (hx:R.aFF R'):∀ {fs:List (FuncId×Nat)} {gs:List SV} {ds:List Deferred},rK R fs gs ds->rK R' fs gs ds
 | [],_,_,h=>h
 |(f,n)::fs,gs,ds,⟨d,r,vs,cap,h1,h2,h3,h4,h5⟩=>⟨d,r,vs,cap,h1,h2,h3,SV.kB hx _ _ h4,rK.grow hx h5⟩
theorem rK.flat {R:Ctx}:∀ {fs:List (FuncId×Nat)} {gs:List SV} {ds:List Deferred},gs.length=(fs.map (·.2)).sum->rK R fs gs ds->∃ vs,SV.bw R gs vs/\∀ R' gs',gs'.length=gs.length->SV.bw R' gs' vs->rK R' fs gs' ds
 | [],gs,ds,hl,h=>by
  have:gs= []:=(by grind)
  subst this
  exact ⟨[],ve,λ_ _ _ _=>h⟩
 |(f,n)::fs,gs,ds,hl,⟨d,r,vs,cap,h1,h2,h3,h4,h5⟩=>by
  simp at hl
  obtain ⟨us,k1,k2⟩:=rK.flat (gs:=gs.drop n) (by grind) h5
  refine ⟨vs++us,by have:=SV.bA h4 k1;simp_all,λR' gs' hl' hr=> ?_⟩
  have hv:vs.length=n:=by grind [SV.aN,bM]
  have t1:=SV.cZ hr n
  have t2:=SV.db hr n
  rw [List.take_left' hv] at t1
  exact ⟨d,r,vs,cap,h1,h2,h3,t1,(by grind)⟩
theorem aES {st:St} {R:Ctx} {a:Act} {w:World} (hst:iX R st a w) {o:Oper} {c:Call} (ho:o.op=.defer c) {f:FuncId} {l:List SV} (h:azg st c=some (f,l)):
 ∃ d vs cap,(execOp a.eval o).run P w=.ok (.defer d) w/\d.target=.fn (.func f) cap/\d.args++cap=vs.toArray/\SV.bw R l vs:=by
 unfold azg at h
 split at h
 ·rename_i x hx
  split at h
  ·rename_i g first caps hv
   cases h
   have e:=ks hst x
   rw [hv] at e
   obtain ⟨l1,l2,e1,e2,e3⟩:=e
   refine ⟨{target:=.fn (.func f) l2.toArray,args:=l1.toArray++c.args.map a.eval},l1++c.args.toList.map a.eval++l2,l2.toArray,?_,rfl,?_,SV.bA (SV.bA e2 (Iq hst _)) e3⟩
   ·simp_all [execOp,resolve,Deferred.ofValue]
   simp
  grind
 ·grind
theorem N7 {f:FuncId} {fn:Func} (hf:P.funcs[f]? =some fn) (hn:(fn.name== "runtime.NumGoroutine")=false) (hb:fn.body.isNone=false) {cap args vs:Array Value} (he:args++cap=vs) (w:World):
 (invoke (.fn (.func f) cap) args).run P w=.ok (.enter f vs) w:=by
 have f3':¬fn.body=none:=λe=>by grind
 simp_all [invoke,callFunc]
def aBX (R:Ctx):Option SV->FrameMode->Prop
 |none,u=>u=.returning
 |some v,u=>∃ y,u=.panicking [{v:=y,recovered:=false}]/\SV.rel R v y
theorem iX.same {R:Ctx} {st:St} {a:Act} {w:World} (l:List Deferred) (h:iX R st a w):iX (R.put l) st {a with defers:=l} w:=⟨h.hp,aa3 l h.mem,GK l h.tm,rfl⟩
theorem aDI {R R':Ctx} (l:List Deferred) (h:R.Ext R'):(R.put l).Ext (R'.put l):=⟨h.F,by show (⟨R'.U.blk,R'.U.env,l⟩:Gt)=⟨R.U.blk,R.U.env,l⟩;rw [h.U],h.ch⟩
variable (hte:kv P te) (hΦ:oh P Φ) (hany:Gw P te Φ)
include hte hΦ hany
theorem j7 {r:anU} (hr:L8 P r) {n:Nat} {fn:Func} {K Kp:SV->Hp->Prop} {R₀:Ctx}:∀ (fs:List (FuncId×Nat)) (gs:List SV) (ds:List Deferred) (m:Option SV) (u:FrameMode) (R:Ctx) (st:St) (a:Act) (w:World),R₀.Ext R->
 iX R st a w->rK R fs gs ds->aBX R m u->R.U.dfs= []->FE te Φ n r fn K Kp fs gs m st->Leaves P fn a.tmps (F7 R₀ K Kp) ds u w
 | [],gs,ds,m,u,R,st,a,w,hx,hst,hd,hu,h0,h=>by
  cases hd
  rw [alY] at h
  cases m with
  |none=>
   cases hu
   obtain ⟨x,v,h1,h2,h3⟩:=kn hte hst h
   exact ⟨v,h3,.inl ⟨x,v,R,rfl,hx,hst.mem,h2,by rw [hst.hp];exact h1⟩⟩
  |some sv=>
   obtain ⟨y,rfl,hy⟩:=hu
   exact .inr ⟨sv,y,R,rfl,hx,hst.mem,hy,by rw [hst.hp];exact h⟩
 |(f,k)::fs,gs,ds,m,u,R,st,a,w,hx,hst,hd,hu,h0,h=>by
  obtain ⟨d,rd,vs,cap,rfl,hd1,hd2,hd3,hd4⟩:=hd
  obtain ⟨dt,da⟩:=d
  simp only at hd1 hd2
  subst hd1
  have hur:u≠ .run:=by
   cases m with
   |none=>cases hu;exact λe=>by cases e
   |some v=>obtain ⟨y,rfl,_⟩:=hu;exact λe=>by cases e
  rw [abY] at h
  simp only [Ws] at h
  cases hb:Nat.beq f r.f
  ·rw [hb] at h
   simp only at h
   cases hg:Nat.beq f r.gf
   ·rw [hg] at h;exact h.elim
   ·rw [hg,aK] at h
    have e:=aY hg
    subst e
    obtain ⟨g1,g2,g3⟩:=hr.gfn
    cases hbd:r.g.body with
    |none=>rw [hbd] at g3;cases g3
    |some c=>
     rw [<-hst.hp] at h
     have hw:=aAe hte hΦ hany hbd (λp _ l hl=>by cases hl) h0 hst.mem hd3 h
     refine leaves_cons hur (N7 g1 g2 g3 hd2 w) ((callsD_of_wp (u:=u) g1 hbd hw).mono λe u' w' hp=> ?_)
     obtain ⟨rfl,hp⟩:=hp
     rcases hp with ⟨x,v,R',rfl,hx1,hm1,hv,hk⟩|⟨_,_,_,_,_,_,_,hk⟩
     ·have hu':aBX R' m u':=by
       cases m with
       |none=>exact hu
       |some sv=>obtain ⟨y,h1,h2⟩:=hu;exact ⟨y,h1,SV.aaQ hx1 _ _ h2⟩
      have hs:settle u'=u':=by
       cases m with
       |none=>cases hu;rfl
       |some sv=>obtain ⟨y,rfl,_⟩:=hu;rfl
      simp only [hs]
      exact j7 hr fs _ rd m u' R' ⟨st.tm,R'.hp⟩ a w' (hx.trans hx1) ⟨rfl,hm1,SV.fb hx1 _ _ hst.tm,by rw [hx1.U];exact hst.defers⟩ (hd4.grow hx1.grow) hu' (by rw [hx1.U];exact h0) hk
     ·exact hk.elim
  ·rw [hb] at h
   simp only at h
   have e:=aY hb
   subst e
   obtain ⟨rfn,g1,g2,g3⟩:=hr.fn
   cases gs with
   |nil=>exact h.elim
   |cons p gs'=>
    simp only at h
    cases hk1:Nat.beq k 1
    ·rw [hk1] at h;exact h.elim
    ·have ek:=aY hk1
     subst ek
     obtain ⟨v,rfl,hv⟩:=bZ hd3
     refine leaves_cons hur (N7 g1 g2 g3 hd2 w) ?_
     cases m with
     |none=>
      cases hu
      refine (hr.ret v w).mono λe u' w' hp=> ?_
      obtain ⟨rfl,rfl,rfl⟩:=hp
      exact j7 hr fs gs' rd none _ R st a w' hx hst hd4 rfl h0 h
     |some sv=>
      obtain ⟨y,rfl,hy⟩:=hu
      simp only at h
      split at h
      ·rename_i t x
       cases ht:Nat.beq t r.t
       ·rw [ht] at h;exact h.elim
       ·rw [ht,aK] at h
        have et:=aY ht
        subst et
        split at h
        ·rename_i ti hT
         cases hz:Nat.beq ti.size 1
         ·rw [hz] at h;exact h.elim
         ·rw [hz,aK] at h
          obtain ⟨up,q1,q2⟩:=OT.Hx h
          obtain ⟨y',rfl,vs,rfl,hvs,_⟩:=hy
          obtain ⟨z,rfl,hz2⟩:=bZ hvs
          obtain ⟨rfl,hin⟩:=hz2
          rw [<-hst.hp] at q1
          obtain ⟨ad,w',R',rfl,s1,s2⟩:=wV (P:=P) (y:=.int x) (u:=.int .i64 x) (l:= [.int x]) hst.mem hte hT hv (by grind [SV.rel]) rfl (by rw [aY hz];rfl) q1
          refine (hr.pan ad x w w' s1).mono λe u' w'' hp=> ?_
          obtain ⟨rfl,rfl,rfl⟩:=hp
          exact j7 hr fs gs' rd none _ R' _ a w'' (hx.trans s2.ext) (hst.TU s2) (hd4.grow s2.ext.grow) rfl (by rw [s2.ext.U];exact h0) q2
        ·exact h.elim
      ·exact h.elim
omit hte hΦ hany in
theorem NX {α:Type}:∀ {l:List α} {o:α},l.getLast? =some o->l=l.dropLast++ [o]
 | [a],o,h=>by cases h;rfl
 |a::b::r,o,h=>congrArg (a:: ·) (NX (l:=b::r) h)
omit hany in
theorem xz {R₀:Ctx} {ops:Array Oper} {o:Oper} {K:St->Prop} {Q:Exit->Act->World->Prop} (hK:∀ R st a w,R₀.Ext R->iX R st a w->K st->wpList P ops Q [o] a w):
 ∀ (l:List Oper) (R:Ctx) (st:St) (a:Act) (w:World),R₀.Ext R->iX R st a w->iu te Φ ops.toList (λe st=>match e with
  |.normal=>K st
  |_=>False) l st->wpList P ops Q (l++ [o]) a w
 | [],R,st,a,w,hx,hst,h=>hK R st a w hx hst h
 |o'::r,R,st,a,w,hx,hst,h=>by
  simp only [iu] at h
  split at h
  ·exact h.elim
  ·rename_i b hb
   have hw:=gi hst hb
   simp only [List.cons_append,wpList,hw]
   cases b
   ·simp only [Bool.false_eq_true,if_false]
    exact xz hK r R _ _ w hx (hst.undef o'.dst) h
   ·simp only [if_true]
    refine .inl ?_
    obtain ⟨out,h1,h2⟩:=OT.Hx h
    refine mi hte hΦ hst h1 ?_
    cases out with
    |ret e=>exact λR' w' v ha hv=>xz hK r R' _ _ w' (hx.trans ha.ext) (hst.put ha hv o'.dst) h2
    |pan sv u=>exact h2.elim
omit hany in
theorem CR {bl:List (Nat×Code)} {R₀:Ctx} {K:Code->List (FuncId×Nat)->List SV->St->Prop} {Q:Exit->Act->World->Prop}
 (hK:∀ (c:Code) (fs:List (FuncId×Nat)) (gs:List SV) (ds:List Deferred) (R:Ctx) (st:St) (a:Act) (w:World),(R₀.put ds).Ext R->iX R st a w->gs.length=(fs.map (·.2)).sum->rK R fs gs ds->(∀ p ∈ blocks c,p ∈ bl)->K c fs gs st->c.wp P Q a w):
 ∀ (m:Nat) (c:Code) (fs:List (FuncId×Nat)) (gs:List SV) (ds:List Deferred) (R:Ctx) (st:St) (a:Act) (w:World),(R₀.put ds).Ext R->iX R st a w->gs.length=(fs.map (·.2)).sum->rK R fs gs ds->(∀ p ∈ blocks c,p ∈ bl)->aFr te Φ m c fs gs st K->c.wp P Q a w
 |0,c,fs,gs,ds,R,st,a,w,hx,hst,hl,hd,hbl,h=>hK c fs gs ds R st a w hx hst hl hd hbl h
 |m+1,c,fs,gs,ds,R,st,a,w,hx,hst,hl,hd,hbl,h=>by
  cases c<;>try (exact False.elim h;done)
  case seq x y=>
   rw [av2] at h
   have hbl':∀ p ∈ blocks y,p ∈ bl:=λp hp=>hbl p (by simp [blocks,hp])
   refine wp_seq ?_
   split at h
   ·rename_i d hc
    unfold aET at hc
    split at hc
    ·rename_i id ops
     split at hc
     ·rename_i o ho
      split at hc
      ·rename_i c' h1 h2 h3
       cases hc
       rw [mh] at h
       refine wp_region_list ?_
       rw [show ops.toList=ops.toList.dropLast++ [o] from NX ho]
       refine xz hte hΦ (λR' st a w hx' hst h=> ?_) ops.toList.dropLast R st a w (Ctx.Ext.refl R) hst h
       replace hd:=hd.grow hx'.grow
       replace hx:=hx.trans hx'
       split at h
       ·rename_i f l hf
        obtain ⟨d,vs,cap,e1,e2,e3,e4⟩:=aES (P:=P) hst h1 hf
        have hw:Region.wanted o (yielded ops a.tmps)=true:=by unfold Region.wanted;rw [h2]
        simp only [wpList,hw,if_true]
        refine .inl ?_
        unfold Oper.wp
        rw [e1,Oper.upon_defer,h3]
        have hde:a.defers=ds:=by rw [hst.defers,hx.U];rfl
        have:=hst.same (d::ds)
        refine CR hK m y _ _ (d::ds) (R'.put (d::ds)) st _ w ?_ (by rw [hde];exact this) (by simp only [bL,List.map_cons,List.sum_cons,hl]) ?_ hbl' h
        ·refine ⟨hx.F,?_,hx.ch⟩
         show (⟨R'.U.blk,R'.U.env,d::ds⟩:Gt)=⟨R₀.U.blk,R₀.U.env,d::ds⟩
         rw [hx.U]
         rfl
        ·refine ⟨d,ds,vs,cap,rfl,e2,e3,?_,?_⟩
         ·rw [List.take_left' rfl];exact GK _ e4
         ·rw [List.drop_left' rfl];exact hd.grow (vf R' _)
       ·exact h.elim
      ·cases hc
     ·cases hc
    ·cases hc
   ·split at h
    ·rename_i id ops
     rw [mh] at h
     refine wp_region_list (lE (R₀:=R) hte hΦ (K:=λe st'=>match e with
      |.normal=>aFr te Φ m y fs gs st' K
      |_=>False) ⟨?_,?_,?_,?_⟩ _ R st a w (Ctx.Ext.refl R) hst h)
     ·exact λR' st' a' w' hx' hst' hk=>CR hK m y fs gs ds R' st' a' w' (hx.trans hx') hst' hl (hd.grow hx'.grow) hbl' hk
     ·exact λR' st' a' w' hx' hst' hk=>hk.elim
     ·exact λR' st' a' w' id hx' hst' hk=>hk.elim
     ·exact λR' st' a' w' sv v hx' hst' hv hk=>hk.elim
    ·exact h.elim
theorem aj0 {r:anU} (hr:L8 P r) {f:FuncId} {fn:Func} {c:Code} (hf:P.funcs[f]? =some fn) (hb:fn.body=some c) {R₀:Ctx} {D:Shape} (hD:D.chunks.all (λc=>Nat.blt c.1 D.chunks.length&& !c.2.iS)=true) (hs:Small R₀ D.fixed) {Λ:Lam}
 {m:Nat} (hΛ:∀ R,Small R D.chunks.length->rS P R Λ c) {w:World} {n:Nat}
 {args:List SV} {vs:List Value} {K Kp:SV->Hp->Prop} (hd:R₀.U.dfs= []) (hm:cB R₀ w) (ha:SV.bw R₀ args vs) (h:aFH te Φ Λ n r m D fn args R₀.hp K Kp):Calls P f vs.toArray w (F7 R₀ K Kp):=by
 unfold aFH at h
 rw [hb] at h
 refine calls_of_wp_defers hf hb (CR (bl:=blocks c) hte hΦ (R₀:=R₀) ?_ m c [] [] [] R₀ _ _ w ?_ ⟨rfl,hm,?_,hd.symm⟩ rfl rfl (λ_ h=>h) h)
 ·intro rest fs gs ds R st a w hx hst hl hdo hbl hk
  obtain ⟨us,k1,k2⟩:=hdo.flat hl
  have hlen:=SV.aN hst.tm
  have hst2:iX R ⟨st.tm++gs,st.hp⟩ {tmps:=(a.tmps.toList++us).toArray,defers:=a.defers} w:=⟨hst.hp,hst.mem,by simpa using SV.bA hst.tm k1,hst.defers⟩
  unfold Shape.on at hk
  split at hk
  ·rename_i x hq
   obtain ⟨R',q1,q2⟩:=Shape.aHC (R₀:=R₀.put ds) hs hx hst2 hq
   have hsm:Small R' D.chunks.length:=λc ch hc=>by
    rw [q2.hp] at hc
    unfold Shape.prj at hq
    dsimp only at hq
    cases hbo:D.LH ⟨st.tm++gs,st.hp⟩ (D.bd ⟨st.tm++gs,st.hp⟩)&&Nat.beq (st.tm++gs).length D.n
    ·grind
    ·rw [hbo] at hq
     obtain ⟨_,hx2⟩:=aW hq
     obtain ⟨s,y',g1,g2,g3⟩:=dU hx2 (hc:dQ D.chunks x.2 c=some ch)
     have:=(List.all_eq_true.1 hD) _ g1
     simp only [aw] at this
     refine ⟨dK this.1,?_⟩
     rw [g3]
     cases s<;>first|rfl|(cases this.2)
   have ht:SV.bw R' (D.inj x).tm (a.tmps.toList++us):=by simpa using q2.tm
   have t1:=SV.cZ ht st.tm.length
   have t2:=SV.db ht st.tm.length
   rw [List.take_left' hlen] at t1
   rw [List.drop_left' hlen] at t2
   have hgl:((D.inj x).tm.drop st.tm.length).length=gs.length:=by rw [<-SV.aN t2,SV.aN k1]
   have hdo2:=k2 R' _ hgl t2
   have hback:∀ {R'':Ctx},R'.Ext R''->R₀.Ext (R''.put []):=λ{R''} e=>by
    have e1:(R₀.put ds).put []=R₀:=by
     obtain ⟨F,U,σ,hp⟩:=R₀
     obtain ⟨b,en,l⟩:=U
     cases hd
     rfl
    have:=aDI [] (q1.trans e)
    grind
   have hdef:∀ {R'':Ctx} {st':St} {a':Act} {w':World},R'.Ext R''->iX R'' st' a' w'->a'.defers=ds:=λe h=>by rw [h.defers,e.U,q1.U];rfl
   refine rW (R₀:=R') (st:=⟨(D.inj x).tm.take st.tm.length,(D.inj x).hp⟩) (a:=a) hte hΦ hany (λp hp=>hΛ R' hsm p (hbl p hp)) (Ctx.Ext.refl R') ⟨q2.hp,q2.mem,t1,q2.defers⟩ hk ⟨?_,?_,?_,?_⟩
   ·intro R'' st' a' w' e hst' hk'
    show Leaves P fn a'.tmps _ a'.defers _ w'
    rw [hdef e hst']
    exact j7 hte hΦ hany hr fs _ ds none _ (R''.put []) st' {tmps:=a'.tmps,defers:= []} w' (hback e) (hst'.same []) ((hdo2.grow e.grow).grow (vf _ _)) rfl rfl hk'
   ·intro R'' st' a' w' e hst' hk'
    show Leaves P fn a'.tmps _ a'.defers _ w'
    rw [hdef e hst']
    exact j7 hte hΦ hany hr fs _ ds none _ (R''.put []) st' {tmps:=a'.tmps,defers:= []} w' (hback e) (hst'.same []) ((hdo2.grow e.grow).grow (vf _ _)) rfl rfl hk'
   ·simp
   ·intro R'' st' a' w' sv v e hst' hv hk'
    show Leaves P fn a'.tmps _ a'.defers _ w'
    rw [hdef e hst']
    exact j7 hte hΦ hany hr fs _ ds (some sv) _ (R''.put []) st' {tmps:=a'.tmps,defers:= []} w' (hback e) (hst'.same []) ((hdo2.grow e.grow).grow (vf _ _)) ⟨v,rfl,apO _ hv⟩ rfl hk'
  grind
 ·have e1:R₀.put []=R₀:=by
   obtain ⟨F,U,σ,hp⟩:=R₀
   obtain ⟨b,en,l⟩:=U
   cases hd
   rfl
  grind [Ctx.Ext.refl]
 grind [SV.aN,Array.toList_append,List.size_toArray,SV.bA,SV.pK,SV.rel]
theorem ayS {f:FuncId} {fn:Func} {c:Code} (hf:P.funcs[f]? =some fn) (hb:fn.body=some c) (hname:(fn.name== "runtime.NumGoroutine")=false) {S:af} {k:Nat} (hk:S.chunks.all (λc=>Nat.blt c.1 k&& !c.2.iS)=true) {Λ:Lam}
 (hΛ:∀ R,Small R k->rS P R Λ c) {n:Nat} {outs pans:List aL} (hsel:(outs.all (λo=> !o.pan)&&pans.all λo=>o.pan)=true) {pre:S.T->Bool} {F T:S.T->OT S.Y}
 (h:∀ x Q,wpf te Φ Λ n fn (S.inp.inj x).tm (S.inp.inj x).hp (ac1 S outs Q) (ac1 S pans Q)=(T x).wpR Q)
 (hF:∀ x oy,pre x=true->(F x).run=some oy->(T x).run=some oy):aa P f (S.az pre F):=by
 rw [aw] at hsel
 refine ayV hte hΦ hany hf hb hname hk hΛ (n:=n) λx oy hp hr=>⟨ac1 S outs (λz=>z=oy),ac1 S pans (λz=>z=oy),?_,λv hp hq=> ?_,λv hp hq=> ?_⟩
 ·grind [OT.E9,OT.iZ]
 ·obtain ⟨o,ho,y,hy,hQ⟩:=tQ hq
  subst hQ
  exact ⟨by grind,hy⟩
 ·obtain ⟨o,ho,y,hy,hQ⟩:=tQ hq
  subst hQ
  exact ⟨(by grind),hy⟩
theorem ayU {r:anU} (hr:L8 P r) {f:FuncId} {fn:Func} {c:Code} (hf:P.funcs[f]? =some fn) (hb:fn.body=some c) (hname:(fn.name== "runtime.NumGoroutine")=false) {S:af} {D:Shape}
 (hk:(S.chunks.all (λc=>Nat.blt c.1 D.fixed&& !c.2.iS)&&D.chunks.all (λc=>Nat.blt c.1 D.chunks.length&& !c.2.iS))=true) {Λ:Lam}
 (hΛ:∀ R,Small R D.chunks.length->rS P R Λ c) {n m:Nat} {outs:List aL} (hsel:(outs.all λo=> !o.pan)=true) {pre:S.T->Bool} {F T:S.T->OT S.Y}
 (h:∀ x Q,aFH te Φ Λ n r m D fn (S.inp.inj x).tm (S.inp.inj x).hp (ac1 S outs Q) (λ_ _=>False)=(T x).wpR Q)
 (hF:∀ x oy,pre x=true->(F x).run=some oy->(T x).run=some oy):aa P f (S.az pre F):=by
 rw [aw] at hk
 refine asp (W:=λargs hp K Kp=>aFH te Φ Λ n r m D fn args hp K Kp) hf hb hname hk.1 (λR w args vs K Kp hsm hd hm ha hw=>aj0 hte hΦ hany hr hf hb hk.2 hsm hΛ hd hm ha hw) λx oy hp hr=>⟨ac1 S outs (λz=>z=oy),λ_ _=>False,?_,λv hp hq=> ?_,(by simp)⟩
 ·grind [OT.E9,OT.iZ]
 ·obtain ⟨o,ho,y,hy,hQ⟩:=tQ hq
  subst hQ
  exact ⟨by grind,hy⟩
end
end Sx
end
section
namespace Sx
open Go
structure bV (P:Program) (te:TE) (Φ:Env):Prop where
 ty:kv P te
 ok:oh P Φ
 mono:oi Φ
 any:Gw P te Φ
section
variable {P:Program} {te:TE} {Φ:Env}
theorem aIQ (hf:P.follows .mixedOrders=true) (ht:kv P te):bV P te ahN:=⟨ht,Xx,KT,aBB hf ht Xx KT⟩
theorem aU (hf:P.follows .mixedOrders=true) (g:bV P te Φ) {f:FuncId} {s:bt} (h:aa P f s) (hm:ax s):bV P te (aq f s Φ):=
 ⟨g.ty,OB h g.ok,FN hm g.mono,aBB hf g.ty (OB h g.ok) (FN hm g.mono)⟩
abbrev bh {σ:Type} (U:σ->OT (Sum σ aZ)) (ok:σ->Bool) (f:σ->OT aZ):Prop:=∀ s:σ,ok s=true->∃ m e,cW U m s=some e/\(f s).run=some e
def rJ (P:Program) (k:Nat) (Λ:Lam) (c:Code):Prop:=∀ R,Small R k->rS P R Λ c
theorem bD {k:Nat} {c:Code}:rJ P k fV c:=λ_ _=>Bz
theorem agS (g:bV P te Φ) {k:Nat} {sh:Shape} {l:List (Nat×Shape)} {r:Option Shape} {p:Option (TypeId×Shape)} {Λ:Lam} {body:Code} (hk:(Nat.beq sh.fixed k&&((l.all λp=>Nat.beq p.2.fixed k)&&(r.all λs=>Nat.beq s.fixed k)&&p.all λq=>Nat.beq q.2.fixed k))=true)
 (hΛ:rJ P k Λ body) {id:Nat} {T:sh.T->OT (Sum sh.T aZ)} (hT:∀ s Q,wps te Φ Λ 1000 body (sh.inj s) (Qe sh (av0 l r p) Q)=(T s).wpR Q) {ok:sh.T->Bool} {f:sh.T->OT aZ} (hf:bh T ok f) {R:Ctx} (hR:Small R k):
 Av P R (.block id (.loop body)) (aqY sh id ok f):=by
 rw [aw] at hk
 exact aEa g.ty g.ok g.any (by rw [aY hk.1];exact hR) (ajU hk.2 hR) avZ (hΛ R hR) hT hf
theorem lg (g:bV P te Φ) {k:Nat} {c:Code} (id:Nat) (sh:Shape) (l:List (Nat×Shape)) (r:Option Shape) (p:Option (TypeId×Shape)) (T:sh.T->OT (Sum sh.T aZ)) {Λi Λ:Lam} {ok:sh.T->Bool} {f:sh.T->OT aZ} (inner:rJ P k Λi (Jz c id)) (hf:bh T ok f) (rest:rJ P k Λ c)
 (hd:distinct ((blocks c).map (·.1))=true:=by kernel_rfl) (hl:V2 c id=true:=by kernel_rfl)
 (hk:(Nat.beq sh.fixed k&&((l.all λp=>Nat.beq p.2.fixed k)&&(r.all λs=>Nat.beq s.fixed k)&&p.all λq=>Nat.beq q.2.fixed k))=true:=by kernel_rfl)
 (hT:∀ s Q,wps te Φ Λi 1000 (Jz c id) (sh.inj s) (Qe sh (av0 l r p) Q)=(T s).wpR Q:=by intro s Q;kernel_rfl):rJ P k (Re id (aqY sh id ok f) Λ) c:=
 λR hR=>NY hd hl (agS g hk inner hT hf hR) (rest R hR)
structure aHA (P:Program) (f:FuncId) (fn:Func):Prop where
 at_:P.funcs[f]? =some fn
 body:fn.body=some (mP fn)
 name:(fn.name== "runtime.NumGoroutine")=false
theorem di (g:bV P te Φ) (f:FuncId) (fn:Func) (S:af) (outs:List aL) {Λ:Lam} (lam:rJ P S.chunks.length Λ (mP fn)) {pre:S.T->Bool} {F:S.T->OT S.Y} (T:S.T->OT S.Y)
 (hF:∀ x oy,pre x=true->(F x).run=some oy->(T x).run=some oy) (hf:aHA P f fn:=by constructor<;>kernel_rfl)
 (hk:S.chunks.all (λc=>Nat.blt c.1 S.chunks.length&& !c.2.iS)=true:=by kernel_rfl) (hsel:(outs.all λo=> !o.pan)=true:=by kernel_rfl)
 (h:∀ x Q,wpf te Φ Λ 1000 fn (S.inp.inj x).tm (S.inp.inj x).hp (ac1 S outs Q) (λ_ _=>False)=(T x).wpR Q:=by intro x Q;kernel_rfl):aa P f (S.az pre F):=
 ayT g.ty g.ok g.any hf.at_ hf.body hf.name hk lam hsel h hF
theorem aIR (g:bV P te Φ) (f:FuncId) (fn:Func) (S:af) (sel:SV->Option aL) {Λ:Lam} (lam:rJ P S.chunks.length Λ (mP fn)) {pre:S.T->Bool} {F:S.T->OT S.Y} (T:S.T->OT S.Y)
 (hF:∀ x oy,pre x=true->(F x).run=some oy->(T x).run=some oy) (hf:aHA P f fn:=by constructor<;>kernel_rfl)
 (hk:S.chunks.all (λc=>Nat.blt c.1 S.chunks.length&& !c.2.iS)=true:=by kernel_rfl) (hsel:∀ v o,sel v=some o->o.pan=false:=by intro v o h;cases h;rfl)
 (h:∀ x Q,wpf te Φ Λ 1000 fn (S.inp.inj x).tm (S.inp.inj x).hp (aIb S sel Q) (λ_ _=>False)=(T x).wpR Q:=by intro x Q;kernel_rfl):aa P f (S.az pre F):=
 ayR g.ty g.ok g.any hf.at_ hf.body hf.name hk lam hsel h hF
theorem aEw (g:bV P te Φ) (f:FuncId) (fn:Func) (S:af) (outs pans:List aL) {Λ:Lam} (lam:rJ P S.chunks.length Λ (mP fn)) {pre:S.T->Bool} {F:S.T->OT S.Y} (T:S.T->OT S.Y)
 (hF:∀ x oy,pre x=true->(F x).run=some oy->(T x).run=some oy) (hf:aHA P f fn:=by constructor<;>kernel_rfl)
 (hk:S.chunks.all (λc=>Nat.blt c.1 S.chunks.length&& !c.2.iS)=true:=by kernel_rfl) (hsel:(outs.all (λo=> !o.pan)&&pans.all λo=>o.pan)=true:=by kernel_rfl)
 (h:∀ x Q,wpf te Φ Λ 1000 fn (S.inp.inj x).tm (S.inp.inj x).hp (ac1 S outs Q) (ac1 S pans Q)=(T x).wpR Q:=by intro x Q;kernel_rfl):aa P f (S.az pre F):=
 ayS g.ty g.ok g.any hf.at_ hf.body hf.name hk lam hsel h hF
theorem aIF (g:bV P te Φ) {r:anU} (hr:L8 P r) (m:Nat) (D:Shape) (f:FuncId) (fn:Func) (S:af) (outs:List aL) {Λ:Lam} (lam:rJ P D.chunks.length Λ (mP fn)) {pre:S.T->Bool} {F:S.T->OT S.Y} (T:S.T->OT S.Y)
 (hF:∀ x oy,pre x=true->(F x).run=some oy->(T x).run=some oy) (hf:aHA P f fn:=by constructor<;>kernel_rfl)
 (hk:(S.chunks.all (λc=>Nat.blt c.1 D.fixed&& !c.2.iS)&&D.chunks.all (λc=>Nat.blt c.1 D.chunks.length&& !c.2.iS))=true:=by kernel_rfl) (hsel:(outs.all λo=> !o.pan)=true:=by kernel_rfl)
 (h:∀ x Q,aFH te Φ Λ 1000 r m D fn (S.inp.inj x).tm (S.inp.inj x).hp (ac1 S outs Q) (λ_ _=>False)=(T x).wpR Q:=by intro x Q;kernel_rfl):aa P f (S.az pre F):=
 ayU g.ty g.ok g.any hr hf.at_ hf.body hf.name hk lam hsel h hF
end
end Sx
end
section
open Sx Go
set_option maxRecDepth 100000
abbrev aj:=Tryz.prog
theorem aG {P:Program} {T:TypeId} {ti:TI} (h1:(P.info? T).isSome=true:=by kernel_rfl) (h4:((P.info? T).get h1).zero.isSome=true:=by kernel_rfl) (h10:(P.underlying T).isSome=true:=by kernel_rfl)
 (hs:Nat.beq ((P.info? T).get h1).size ti.size=true:=by kernel_rfl) (hb:Nat.beq ((P.info? T).get h1).bytes ti.bytes=true:=by kernel_rfl)
 (hz:(((P.info? T).get h1).zero.get h4).cells.toList.map Fu=ti.zero:=by kernel_rfl) (hc:((((P.info? T).get h1).zero.get h4).cells.toList.all Value.oneCell')=true:=by kernel_rfl)
 (hn:Nat.beq (((P.info? T).get h1).zero.get h4).cells.size ti.size=true:=by kernel_rfl) (h8:Nat.ble ti.size 16777216=true:=by kernel_rfl) (h9:(ti.desc.agg||Nat.beq ti.size 1)=true:=by kernel_rfl)
 (hd:aEU P T ((P.underlying T).get h10) ti.desc=true:=by kernel_rfl)
 (ht:match ti.ty with
  |none=>True
  |some t=>Nat.beq t.size ti.size=true/\(((P.info? T).get h1).zero.get h4).cells.toList=zeroCells t/\(!ti.desc.agg|| !P.eqGuardType P.depth T)=true:=by first|exact trivial|exact ⟨by kernel_rfl,by kernel_rfl,by kernel_rfl⟩):fh P T ti:=aC1 h1 h4 h10 hs hb hz hc hn h8 h9 hd ht
def aAy:TI:=⟨1,8,.other,[.gu],none⟩
def aAx:TI:=⟨1,8,.int .i64,[.int 0],some .int⟩
def aAw:TI:=⟨1,1,.bool,[.bool false],some .bool⟩
def aAv:TI:=⟨1,1,.int .u8,[.u8 0],some .u8⟩
def aAu:TI:=⟨1,16,.str,[.str []],some .str⟩
def apa:TI:=⟨1,16,.iface,[.fH],none⟩
def aar:TI:=⟨1,24,.slice 27,[.emp],some (.list (.prod .elem (.prod .elem .bool)))⟩
def ao9:TI:=⟨1,8,.int .u64,[.u64 0],some .u64⟩
def Dd:TI:=⟨4,32,.array 4 23,[.u64 0,.u64 0,.u64 0,.u64 0],some .elem⟩
def P8:TI:=⟨9,72,.struct [(0,25),(4,25),(8,4)],[.u64 0,.u64 0,.u64 0,.u64 0,.u64 0,.u64 0,.u64 0,.u64 0,.bool false],some (.prod .elem (.prod .elem .bool))⟩
def ao8:TI:=⟨21,184,.struct [(0,3),(1,3),(2,22),(3,27),(12,27)],[.int 0,.int 0,.emp,.u64 0,.u64 0,.u64 0,.u64 0,.u64 0,.u64 0,.u64 0,.u64 0,.bool false,.u64 0,.u64 0,.u64 0,.u64 0,.u64 0,.u64 0,.u64 0,.u64 0,.bool false],some (.prod .int (.prod .int (.prod (.list (.prod .elem (.prod .elem .bool))) (.prod (.prod .elem (.prod .elem .bool)) (.prod .elem (.prod .elem .bool))))))⟩
def H3:TI:=⟨1,24,.slice 25,[.emp],some (.list .elem)⟩
def ao7:TI:=⟨2,32,.struct [(0,3),(1,30)],[.int 0,.emp],some (.prod .int (.list .elem))⟩
def ao6:TI:=⟨33,328,.struct [(0,29),(21,32),(23,30),(24,30),(25,25),(29,25)],[.int 0,.int 0,.emp,.u64 0,.u64 0,.u64 0,.u64 0,.u64 0,.u64 0,.u64 0,.u64 0,.bool false,.u64 0,.u64 0,.u64 0,.u64 0,.u64 0,.u64 0,.u64 0,.u64 0,.bool false,.int 0,.emp,.emp,.emp,.u64 0,.u64 0,.u64 0,.u64 0,.u64 0,.u64 0,.u64 0,.u64 0],some (.prod (.prod .int (.prod .int (.prod (.list (.prod .elem (.prod .elem .bool))) (.prod (.prod .elem (.prod .elem .bool)) (.prod .elem (.prod .elem .bool)))))) (.prod (.prod .int (.list .elem)) (.prod (.list .elem) (.prod (.list .elem) (.prod .elem .elem)))))⟩
def ao5:TI:=⟨1,24,.slice 5,[.emp],some (.list .u8)⟩
def ao4:TI:=⟨1,8,.int .i64,[.int 0],some .int⟩
def ao3:TI:=⟨1,24,.slice 79,[.emp],some (.list (.prod .elem (.prod .elem (.prod .elem .bool))))⟩
def ao2:TI:=⟨1,8,.ptr [("Point",63),("Rest",24),("Scalar",71)],[.rT],none⟩
def ao1:TI:=⟨13,104,.struct [(0,25),(4,27)],[.u64 0,.u64 0,.u64 0,.u64 0,.u64 0,.u64 0,.u64 0,.u64 0,.u64 0,.u64 0,.u64 0,.u64 0,.bool false],some (.prod .elem (.prod .elem (.prod .elem .bool)))⟩
def ao0:TI:=⟨1,8,.ptr [("Bytes",37),("Point",92),("Scalar",94),("sigil/tape.say",136)],[.rT],none⟩
def aoZ:TI:=⟨1,8,.ptr [("Next",90)],[.rT],none⟩
def afO:TI:=⟨1,16,.iface,[.fH],none⟩
def afN:TI:=⟨2,24,.struct [(0,3),(1,105)],[.int 0,.fH],none⟩
def afM:TI:=⟨3,48,.struct [(0,109),(2,37)],[.int 0,.fH,.emp],none⟩
def afL:TI:=⟨1,8,.ptr [],[.rT],none⟩
def afK:TI:=⟨1,8,.other,[.gu],none⟩
def afJ:TI:=⟨1,8,.other,[.gu],none⟩
def afI:TI:=⟨1,8,.other,[.gu],none⟩
def afH:TI:=⟨11,88,.struct [(0,25),(4,3),(5,23),(6,23),(7,25)],[.u64 0,.u64 0,.u64 0,.u64 0,.int 0,.u64 0,.u64 0,.u64 0,.u64 0,.u64 0,.u64 0],some (.prod .elem (.prod .int (.prod .u64 (.prod .u64 .elem))))⟩
def afG:TI:=⟨1,8,.other,[.gu],none⟩
def afF:TI:=⟨1,8,.int .u64,[.u64 0],some .u64⟩
def afE:TI:=⟨3,48,.struct [(0,109),(2,37)],[.int 0,.fH,.emp],none⟩
def afD:TI:=⟨1,8,.ptr [("sigil/ipa.fold",139),("sigil/ipa.inner",164),("sigil/ipa.round",93),("sigil/ipa.side",138)],[.rT],none⟩
def afC:TI:=⟨33,328,.struct [(0,29),(21,3),(22,25),(26,30),(27,30),(28,22),(29,25)],[.int 0,.int 0,.emp,.u64 0,.u64 0,.u64 0,.u64 0,.u64 0,.u64 0,.u64 0,.u64 0,.bool false,.u64 0,.u64 0,.u64 0,.u64 0,.u64 0,.u64 0,.u64 0,.u64 0,.bool false,.int 0,.u64 0,.u64 0,.u64 0,.u64 0,.emp,.emp,.emp,.u64 0,.u64 0,.u64 0,.u64 0],some (.prod (.prod .int (.prod .int (.prod (.list (.prod .elem (.prod .elem .bool))) (.prod (.prod .elem (.prod .elem .bool)) (.prod .elem (.prod .elem .bool)))))) (.prod .int (.prod .elem (.prod (.list .elem) (.prod (.list .elem) (.prod (.list (.prod .elem (.prod .elem .bool))) .elem))))))⟩
def afB:TI:=⟨1,24,.struct [(0,30)],[.emp],some (.list .elem)⟩
def afA:TI:=⟨1,8,.other,[.gu],none⟩
def afz:TI:=⟨1,8,.ptr [("sigil/tape.next",220),("sigil/tape.take",221)],[.rT],none⟩
def afy:TI:=⟨2,32,.struct [(0,3),(1,155)],[.int 0,.emp],some (.prod .int (.list .elem))⟩
def afx:TI:=⟨1,8,.ptr [("Sum",162),("Write",161)],[.rT],none⟩
def afw:TI:=⟨1,8,.ptr [("sigil/tape.next",222),("sigil/tape.take",223)],[.rT],none⟩
def afv:TI:=⟨2,16,.struct [(0,3),(1,168)],[.int 0,.rT],none⟩
def GC:TI:=⟨1,8,.struct [(0,40)],[.int 0],some .int⟩
def afu:TI:=⟨1,8,.ptr [("Challenge",65),("Curve",59)],[.rT],none⟩
def aft:TI:=⟨1,8,.other,[.gu],none⟩
def afs:TI:=⟨1,8,.ptr [("Add",130),("Scale",224),("Value",131)],[.rT],none⟩
def afr:TI:=⟨8,64,.array 8 23,[.u64 0,.u64 0,.u64 0,.u64 0,.u64 0,.u64 0,.u64 0,.u64 0],some (.arr 8 .u64)⟩
def afq:TI:=⟨11,104,.struct [(0,3),(1,196),(9,37),(10,23)],[.int 0,.u64 0,.u64 0,.u64 0,.u64 0,.u64 0,.u64 0,.u64 0,.u64 0,.emp,.u64 0],some (.prod .int (.prod (.arr 8 .u64) (.prod (.list .u8) .u64)))⟩
def afp:TI:=⟨16,16,.array 16 5,List.replicate 16 (.u8 0),some (.arr 16 .u8)⟩
def afo:TI:=⟨2,32,.struct [(0,3),(1,51)],[.int 0,.emp],some (.prod .int (.list (.prod .elem (.prod .elem (.prod .elem .bool)))))⟩
def afn:TI:=⟨1,8,.int .i64,[.int 0],some .int⟩
def afm:TI:=⟨12,96,.struct [(0,25),(4,25),(8,25)],List.replicate 12 (.u64 0),some (.prod .elem (.prod .elem .elem))⟩
def afl:TI:=⟨16,128,.array 16 23,List.replicate 16 (.u64 0),some (.arr 16 .u64)⟩
def afk:TI:=⟨1,16,.iface,[.fH],none⟩
def afj:TI:=⟨6,48,.array 6 23,[.u64 0,.u64 0,.u64 0,.u64 0,.u64 0,.u64 0],some (.arr 6 .u64)⟩
def afi:TI:=⟨1,24,.slice 23,[.emp],some (.list .u64)⟩
def afh:TI:=⟨128,128,.array 128 5,List.replicate 128 (.u8 0),some (.arr 128 .u8)⟩
def afg:TI:=⟨8,64,.array 2 25,[.u64 0,.u64 0,.u64 0,.u64 0,.u64 0,.u64 0,.u64 0,.u64 0],some (.arr 2 .elem)⟩
def aff:TI:=⟨1,8,.other,[.gu],none⟩
def afe:TI:=⟨135,1080,.array 15 27,(([.u64 0,.u64 0,.u64 0,.u64 0,.u64 0,.u64 0,.u64 0,.u64 0,.bool false,.u64 0,.u64 0,.u64 0,.u64 0,.u64 0,.u64 0,.u64 0,.u64 0,.bool false,.u64 0,.u64 0,.u64 0,.u64 0,.u64 0,.u64 0,.u64 0,.u64 0,.bool false,.u64 0,.u64 0,.u64 0,.u64 0,.u64 0,.u64 0,.u64 0,.u64 0,.bool false,.u64 0,.u64 0,.u64 0,.u64 0,.u64 0,.u64 0,.u64 0,.u64 0,.bool false,.u64 0,.u64 0,.u64 0,.u64 0,.u64 0]:List SV)++([.u64 0,.u64 0,.u64 0,.bool false,.u64 0,.u64 0,.u64 0,.u64 0,.u64 0,.u64 0,.u64 0,.u64 0,.bool false,.u64 0,.u64 0,.u64 0,.u64 0,.u64 0,.u64 0,.u64 0,.u64 0,.bool false,.u64 0,.u64 0,.u64 0,.u64 0,.u64 0,.u64 0,.u64 0,.u64 0,.bool false,.u64 0,.u64 0,.u64 0,.u64 0,.u64 0,.u64 0,.u64 0,.u64 0,.bool false,.u64 0,.u64 0,.u64 0,.u64 0,.u64 0,.u64 0,.u64 0,.u64 0,.bool false,.u64 0]:List SV)++([.u64 0,.u64 0,.u64 0,.u64 0,.u64 0,.u64 0,.u64 0,.bool false,.u64 0,.u64 0,.u64 0,.u64 0,.u64 0,.u64 0,.u64 0,.u64 0,.bool false,.u64 0,.u64 0,.u64 0,.u64 0,.u64 0,.u64 0,.u64 0,.u64 0,.bool false,.u64 0,.u64 0,.u64 0,.u64 0,.u64 0,.u64 0,.u64 0,.u64 0,.bool false]:List SV)),some (.arr 15 (.prod .elem (.prod .elem .bool)))⟩
def afd:TI:=⟨16,128,.array 16 23,List.replicate 16 (.u64 0),some (.arr 16 .u64)⟩
def afc:TI:=⟨10,160,.array 10 9,List.replicate 10 (.str []),some (.arr 10 .str)⟩
def afb:TI:=⟨1,8,.ptr [("sigil/blake.mix",200)],[.rT],none⟩
theorem aFV:fh aj 1 aAy:=aG
theorem aFU:fh aj 3 aAx:=aG
theorem aFT:fh aj 4 aAw:=aG
theorem aFS:fh aj 5 aAv:=aG
theorem aFR:fh aj 9 aAu:=aG
theorem aDj:fh aj 20 apa:=aG
theorem aDi:fh aj 22 aar:=aG
theorem aDh:fh aj 23 ao9:=aG
theorem aDg:fh aj 25 Dd:=aG
theorem aDf:fh aj 27 P8:=aG
theorem aDe:fh aj 29 ao8:=aG
theorem aDd:fh aj 30 H3:=aG
theorem aDc:fh aj 32 ao7:=aG
theorem aDb:fh aj 34 ao6:=aG
theorem aDa:fh aj 37 ao5:=aG
theorem aC9:fh aj 40 ao4:=aG
theorem aC8:fh aj 51 ao3:=aG
theorem aC7:fh aj 52 ao2:=aG
theorem aC6:fh aj 79 ao1:=aG
theorem aC5:fh aj 83 ao0:=aG
theorem aC4:fh aj 87 aoZ:=aG
theorem awV:fh aj 105 afO:=aG
theorem awU:fh aj 109 afN:=aG
theorem awT:fh aj 111 afM:=aG
theorem awS:fh aj 113 afL:=aG
theorem awR:fh aj 130 afK:=aG
theorem awQ:fh aj 133 afJ:=aG
theorem awP:fh aj 134 afI:=aG
theorem awO:fh aj 137 afH:=aG
theorem awN:fh aj 142 afG:=aG
theorem awM:fh aj 143 afF:=aG
theorem awL:fh aj 147 afE:=aG
theorem awK:fh aj 148 afD:=aG
theorem awJ:fh aj 150 afC:=aG
theorem awI:fh aj 155 afB:=aG
theorem awH:fh aj 161 afA:=aG
theorem awG:fh aj 165 afz:=aG
theorem awF:fh aj 167 afy:=aG
theorem awE:fh aj 168 afx:=aG
theorem awD:fh aj 171 afw:=aG
theorem awC:fh aj 173 afv:=aG
theorem awB:fh aj 175 GC:=aG
theorem awA:fh aj 177 afu:=aG
theorem awz:fh aj 181 aft:=aG
theorem awy:fh aj 189 afs:=aG
theorem awx:fh aj 196 afr:=aG
theorem aww:fh aj 203 afq:=aG
theorem awv:fh aj 204 afp:=aG
theorem awu:fh aj 210 afo:=aG
theorem awt:fh aj 213 afn:=aG
theorem aws:fh aj 216 afm:=aG
theorem awr:fh aj 221 afl:=aG
theorem awq:fh aj 231 afk:=aG
theorem awp:fh aj 233 afj:=aG
theorem awo:fh aj 235 afi:=aG
theorem awn:fh aj 239 afh:=aG
theorem awm:fh aj 240 afg:=aG
theorem awl:fh aj 249 aff:=aG
theorem awk:fh aj 250 afe:=aG
theorem awj:fh aj 251 afd:=aG
theorem awi:fh aj 252 afc:=aG
theorem awh:fh aj 258 afb:=aG
def te:TE:=bu 1 aAy<|bu 3 aAx<|bu 4 aAw<|bu 5 aAv<|bu 9 aAu<|bu 20 apa<|bu 22 aar<|bu 23 ao9<|bu 25 Dd<|bu 27 P8<|bu 29 ao8<|bu 30 H3<|bu 32 ao7<|bu 34 ao6<|bu 37 ao5<|bu 40 ao4<|bu 51 ao3<|bu 52 ao2<|bu 79 ao1<|bu 83 ao0<|bu 87 aoZ<|bu 105 afO<|bu 109 afN<|bu 111 afM<|bu 113 afL<|bu 130 afK<|bu 133 afJ<|bu 134 afI<|bu 137 afH<|bu 142 afG<|bu 143 afF<|bu 147 afE<|bu 148 afD<|bu 150 afC<|bu 155 afB<|bu 161 afA<|bu 165 afz<|bu 167 afy<|bu 168 afx<|bu 171 afw<|bu 173 afv<|bu 175 GC<|bu 177 afu<|bu 181 aft<|bu 189 afs<|bu 196 afr<|bu 203 afq<|bu 204 afp<|bu 210 afo<|bu 213 afn<|bu 216 afm<|bu 221 afl<|bu 231 afk<|bu 233 afj<|bu 235 afi<|bu 239 afh<|bu 240 afg<|bu 249 aff<|bu 250 afe<|bu 251 afd<|bu 252 afc<|bu 258 afb<|aFW
theorem Mr:kv aj te:=aH aFV<|aH aFU<|aH aFT<|aH aFS<|aH aFR<|aH aDj<|aH aDi<|aH aDh<|aH aDg<|aH aDf<|aH aDe<|aH aDd<|aH aDc<|aH aDb<|aH aDa<|aH aC9<|aH aC8<|aH aC7<|aH aC6<|aH aC5<|aH aC4<|aH awV<|aH awU<|aH awT<|aH awS<|aH awR<|aH awQ<|aH awP<|aH awO<|aH awN<|aH awM<|aH awL<|aH awK<|aH awJ<|aH awI<|aH awH<|aH awG<|aH awF<|aH awE<|aH awD<|aH awC<|aH awB<|aH awA<|aH awz<|aH awy<|aH awx<|aH aww<|aH awv<|aH awu<|aH awt<|aH aws<|aH awr<|aH awq<|aH awp<|aH awo<|aH awn<|aH awm<|aH awl<|aH awk<|aH awj<|aH awi<|aH awh<|awW
theorem follows:aj.follows .mixedOrders=true:=by kernel_rfl
def E0:Env:=ahN
theorem aIt:bV aj te E0:=aIQ follows Mr
def CU (b:List UInt8) (k:Nat):UInt64:=(List.range k).foldl (λv (i:Nat)=>v|||cE (UInt8.toUInt64 (b.getD i 0)) (8*(i:Int))) 0
theorem aj3 (b:List UInt8) (k:Nat):CU b (k+1)=CU b k|||cE (UInt8.toUInt64 (b.getD k 0)) (8*(k:Int)):=by
 simp [CU,List.range_succ]
abbrev ap:Type:=List UInt64
abbrev aB:Type:=List ab
abbrev aF:Type:=List UInt8
abbrev eU:Type:=Int×Unit
abbrev ct:Type:=Unit×Unit
abbrev m4:Type:=UInt64×Unit
abbrev o3:Type:=ab×Unit
abbrev rD:Type:=ab×PUnit
abbrev cK:Type:=ab×ab×Bool
abbrev m6:Type:=Unit×ct
abbrev fK:Type:=aB×Unit
abbrev dl:Type:=aF×Unit
abbrev iH:Type:=ab×ab×ab
abbrev xo:Type:=ab×o3
abbrev Cs:Type:=PUnit×PUnit×PUnit
abbrev jR:Type:=Int×eU
abbrev o4:Type:=eU×Unit
abbrev rE:Type:=Unit×eU
abbrev uA:Type:=ap×Unit
abbrev F0:Type:=ap×UInt64
abbrev FZ:Type:=aF×PUnit
abbrev Cr:Type:=Int×ct
abbrev xn:Type:=Int×aB
abbrev YQ:Type:=List (Int×ab)
abbrev LS:Type:=List aF
abbrev Af:Type:=ap×uA
abbrev m5:Type:=Unit×rE
abbrev cJ:Type:=List cK
abbrev lz:Type:=ap×UInt64×aF
abbrev jT:Type:=Int×fK
abbrev jS:Type:=Int×m6
abbrev mZ:Type:=ab×xn
abbrev nW:Type:=Unit×m6
abbrev rC:Type:=cK×Unit
abbrev LV:Type:=Int×aB×PUnit
abbrev aiI:Type:=UInt64×UInt64×m4
abbrev aiG:Type:=(ab×eU)×Unit
abbrev Cq:Type:=cK×Int
abbrev aiF:Type:=(Int×o3)×Unit
abbrev eC:Type:=List (ab×cK)
abbrev iW:Type:=ab×Int×UInt64×UInt64×ab
abbrev rF:Type:=Unit×Unit×jR
abbrev mY:Type:=m6×Af
abbrev o5:Type:=ap×Af
abbrev LW:Type:=(Int×xo)×Unit
abbrev aiJ:Type:=(Unit×Unit×m4)×Af
abbrev auM:Type:=PUnit×PUnit×PUnit×Int×PUnit
abbrev YP:Type:=Int×Unit×dl
abbrev LR:Type:=Unit×nW
abbrev LQ:Type:=cJ×Unit
abbrev aiD:Type:=Unit×UInt8×dl
abbrev o7:Type:=ap×o5
abbrev F1:Type:=YP×jT×Unit
abbrev Ct:Type:=Unit×Unit×m5
abbrev aiM:Type:=Unit×Unit×Unit×UInt64×eU
abbrev o6:Type:=eC×Unit
abbrev auR:Type:=(Int×Cs)×LV×(aB×PUnit)×FZ
abbrev O8:Type:=jS×jT×dl
abbrev kW:Type:=Int×Int×cJ×cK×cK
abbrev aiQ:Type:=UInt64×UInt64×UInt64×aiI
abbrev LU:Type:=Unit×Ct
abbrev aBE:Type:=UInt64×UInt64×UInt64×UInt64×UInt64×UInt64×PUnit
abbrev O9:Type:=kW×xn×aB×aB×ab×ab
abbrev YS:Type:=Unit×Unit×Unit×rF
abbrev rB:Type:=kW×Unit
abbrev YR:Type:=(Unit×aiM)×o7
abbrev aiE:Type:=(Int×o6)×Unit
abbrev aiL:Type:=(Int×Int×cJ×cK×rC)×LQ
abbrev auP:Type:=ap×ap×ap×ap×LS×dl×Unit
abbrev aBD:Type:=LU×ap×ap×ap×ap×LS×Unit
abbrev kk:Type:=UInt64×UInt64×UInt64×UInt64×UInt64×UInt64×UInt64×UInt64×Bool×Unit
abbrev Gr:Type:=kW×Int×ab×aB×aB×cJ×ab
abbrev aiP:Type:=UInt64×UInt64×UInt64×UInt64×UInt64×UInt64×UInt64×UInt64×Bool×PUnit
abbrev aiN:Type:=kW×Int×ab×Unit×Unit×cJ×o3
abbrev auQ:Type:=UInt64×UInt64×UInt64×aiQ
abbrev uz:Type:=Gr×Unit
abbrev MV:Type:=UInt64×UInt64×UInt64×UInt64×Int×aiQ
abbrev F2:Type:=Int×UInt64×UInt64×UInt64×UInt64×UInt64×UInt64×UInt64×UInt64×Unit×m4
abbrev Pa:Type:=Int×UInt64×UInt64×UInt64×UInt64×UInt64×UInt64×UInt64×UInt64×PUnit×UInt64×PUnit
abbrev uB:Type:=kk×kk×Unit
abbrev auS:Type:=Int×UInt64×UInt64×UInt64×UInt64×UInt64×UInt64×UInt64×UInt64×aF×m4
abbrev aiK:Type:=(Int×eC×m5)×uB
abbrev auL:Type:=UInt64×UInt64×UInt64×auQ
abbrev aiO:Type:=YP×jT×rB×ap×ap×ct×eU×Unit×o6
abbrev auO:Type:=UInt64×UInt64×UInt64×UInt64×kk
abbrev auK:Type:=ap×MV×ap×o7
abbrev aBG:Type:=aiN×jS×jT×fK×Unit×ap×ap×ap×ap×cJ×aB×aB×dl
abbrev auN:Type:=(Int×Ct)×ap×kk×uB
abbrev aBJ:Type:=YP×jT×rB×ap×ap×ct×eU×Unit×ap×ap×aB×o6
abbrev aBI:Type:=jS×jT×fK×aF×rB×ap×ap×eU×aiN×aB×aB×fK
abbrev aBF:Type:=jS×jT×fK×Unit×rB×ap×ap×eU×uz×dl
abbrev LX:Type:=Int×Int×cJ×UInt64×UInt64×UInt64×UInt64×UInt64×UInt64×UInt64×UInt64×Bool×kk
abbrev aBH:Type:=Int×Int×cJ×UInt64×UInt64×UInt64×UInt64×UInt64×UInt64×UInt64×UInt64×Bool×aiP
abbrev aiH:Type:=LX×kk×o6
abbrev aQ:Sh:=.val false .u64
abbrev CG:Ty:=.prod .elem (.prod .elem .bool)
abbrev aC:Sh:=.val false .int
abbrev rH:Sh:=.val false .bool
abbrev YX:CSh:=.cells [aQ,aQ,aQ,aQ,aQ,aQ,aQ,aQ,rH]
abbrev aG8:Ty:=.prod .int (.prod .int (.prod (.list CG) (.prod CG CG)))
abbrev jP:Sh:=.val false (.list .elem)
abbrev aG7:CSh:=.cells [.val true (.prod aG8 (.prod .int (.prod .elem (.prod (.list .elem) (.prod (.list .elem) (.prod (.list CG) .elem))))))]
abbrev xr:Sh:=.val false (.list CG)
abbrev YV:Nat×CSh:=(0,.cells [aC,aC,xr,aQ,aQ,aQ,aQ,aQ,aQ,aQ,aQ,rH,aQ,aQ,aQ,aQ,aQ,aQ,aQ,aQ,rH])
abbrev dw:Sh:=.val true .elem
abbrev Ao:Sh:=.ifp 165 1
abbrev jM:Sh:=.val false (.list .u8)
abbrev aes:Nat×CSh:=(0,.cells [aC,Ao,jM])
abbrev gx:CSh:=.row .u64
abbrev CF:CSh:=.cells [aC,jP]
abbrev lc:Nat×CSh:=(1,CF)
abbrev eX:Sh:=.ptr 0 0 0
abbrev Pd:CSh:=.cells [aQ,aQ,aQ,aQ,aC,aQ,aQ,aQ,aQ,aQ,aQ]
abbrev auV:Nat×CSh:=(0,.cells [aC,Ao,.own 2])
abbrev pb:CSh:=.row .u8
abbrev Ah:Nat×CSh:=(2,pb)
abbrev uF:List (Nat×CSh):= [auV,lc,Ah]
abbrev lC:Sh:=.val false (.list (.prod .elem CG))
abbrev YT:Sh:=.val true aG8
abbrev uE:CSh:=.cells [YT]
abbrev nY:Nat×CSh:=(3,gx)
abbrev Cy:Nat×CSh:=(4,gx)
abbrev jK:List Sh:= [aC]
abbrev pc:CSh:=.cells jK
abbrev F6:CSh:=.row (.prod .elem CG)
abbrev aiW:List (Nat×CSh):= [aes,lc,(2,uE),nY,Cy,(5,.cells [.own 8]),(6,pc),(7,.gone),(8,F6)]
abbrev ir:Sh:=.ptr 1 0 0
abbrev Pc:Sh:=.val true (.prod .elem (.prod .int (.prod .u64 (.prod .u64 .elem))))
abbrev xu:Sh:=.val true CG
abbrev kl:Sh:=.own 1
abbrev YY:Nat×CSh:=(0,.cells [aC,aQ,aQ,aQ,aQ,aQ,aQ,aQ,aQ,kl,aQ])
abbrev fE:Sh:=.ptr 2 0 0
abbrev F5:Sh:=.val true (.prod .elem (.prod .elem .elem))
abbrev aBM:CSh:=.cells [YT,aC,dw,.own 10,.own 11,xr,dw]
abbrev L6:CSh:=.cells [jP]
abbrev Cx:Nat×CSh:=(5,gx)
abbrev uG:Nat×CSh:=(6,gx)
abbrev fL:CSh:=.row .elem
abbrev aBV:List (Nat×CSh):= [(0,aBM),(1,.cells [aC,.ifp 165 2,.own 12]),(2,CF),(3,L6),(4,.gone),Cx,uG,(7,gx),(8,gx),(9,.row CG),(10,fL),(11,fL),(12,pb)]
abbrev iI:Nat×CSh:=(0,gx)
abbrev aiV:Nat×CSh:=(0,.cells [aC,Ao,.own 3])
abbrev uH:Nat×CSh:=(2,L6)
abbrev uI:Nat×CSh:=(3,pb)
abbrev aBU:List (Nat×CSh):= [aiV,lc,uH,uI,(4,uE),Cx,uG,(7,pc),(8,aBM),(9,fL),(10,fL),(11,fL)]
abbrev pa:Nat×CSh:=(1,gx)
abbrev eD:Nat×Sh:=(4,eX)
abbrev lB:Nat×CSh:=(2,gx)
abbrev gv:Sh:=.ptr 3 0 0
abbrev aBO:CSh:=.cells [aC,aQ,aQ,aQ,aQ,aQ,aQ,aQ,aQ,.own 4,aQ]
abbrev aBT:List (Nat×CSh):= [(0,.cells [aC,.ifp 171 1,.own 2]),(1,.cells [aC,gv]),Ah,(3,aBO),(4,pb)]
abbrev kZ:List Sh:= [dw,aC]
abbrev Cz:Sh:=.ptr 5 0 0
abbrev n0:Nat×Sh:=(10,Cz)
abbrev F3:Sh:=.ptr 6 0 0
abbrev nZ:Nat×Sh:=(11,F3)
abbrev YU:Sh:=.val false .str
abbrev auX:List (Nat×CSh):= [iI,pa,lB,nY,(4,.row .str),(5,.cells [YU])]
abbrev YW:Sh:=.val true (.prod .int (.list .elem))
abbrev m7:List (Nat×CSh):= [aes,lc]
abbrev L5:Sh:=.val false (.list akK)
abbrev auW:List (Nat×CSh):= [iI,(1,Pd),lB,nY,Cy,Cx,uG]
abbrev aBS:List (Nat×CSh):= [aes,lc,(2,uE),nY,Cy,(5,.cells [.own 11]),(6,pc),(7,.gone),(8,gx),(9,gx),(10,fL),(11,F6)]
abbrev aBR:List (Nat×CSh):= [(0,.cells [aC,Ao,.own 9]),lc,uH,(3,.gone),(4,uE),Cx,uG,(7,pc),(8,aG7),(9,pb)]
abbrev lA:Nat×CSh:=(0,YX)
abbrev CE:Sh:=.ptr 4 0 0
abbrev CC:Nat×CSh:=(1,.row CG)
abbrev aBQ:List (Nat×CSh):= [lA,CC,(2,.cells [aQ,aQ,aQ,aQ,aQ,aQ,aQ,aQ,aQ,aQ,aQ,aQ,rH])]
abbrev uD:List (Nat×CSh):= [iI,pa]
abbrev jV:Nat×Sh:=(6,ir)
abbrev jU:Nat×Sh:=(6,eX)
abbrev L3:List Sh:= [aC,dw,dw]
abbrev jL:Nat×Sh:=(0,aC)
abbrev auU:List (Nat×CSh):= [(0,opC),(1,wrC 4),(2,CF),(3,L6),(4,pb)]
abbrev CD:Nat×Sh:=(12,.ptr 7 0 0)
abbrev aBP:CSh:=.cells [aQ,aQ,aQ,aQ,aQ,aQ,aQ,aQ,aQ,aQ,aQ,aQ]
abbrev nX:Nat×CSh:=(1,pb)
abbrev L0:List (Nat×CSh):= [lA,(1,YX)]
abbrev LZ:Sh:=.ptr 8 0 0
abbrev F4:List Sh:= [eX,aC]
abbrev aBN:List (Nat×CSh):= [aiV,lc,uH,uI,(4,uE),Cx,uG,(7,pc)]
abbrev aiU:List (Nat×CSh):= [iI,pa,lB,nY]
abbrev rG:Nat×Sh:=(1,eX)
abbrev iq:List Sh:= [dw]
abbrev xq:List (Nat×CSh):= [(0,pc)]
abbrev CB:Nat×Sh:=(13,CE)
abbrev aiT:Nat×CSh:=(0,.cells [aC,kl])
abbrev LY:List Sh:= [xu,aC]
abbrev uC:Nat×Sh:=(5,ir)
abbrev aiS:Sh:=.val false .u8
abbrev Pb:Sh:=.val true aHS
abbrev CA:Nat×Sh:=(8,ir)
abbrev Cw:Nat×Sh:=(2,eX)
abbrev aBL:List (Nat×Sh):= [Cw,(3,ir),(4,fE),(6,gv),(7,aQ),(9,aC)]
abbrev o9:List Sh:= [eX]
abbrev o8:List Sh:= [xu]
abbrev Cu:Nat×Sh:=(3,eX)
abbrev auT:Nat×CSh:=(0,.cells [.val true aqi])
abbrev aiR:List (Nat×CSh):= [iI,pa,lB]
abbrev xp:Nat×Sh:=(7,aC)
abbrev Al:Nat×Sh:=(9,fE)
abbrev aBK:List (Nat×Sh):= [eD,CA,Al,(11,gv),CB,(51,aC)]
abbrev aev:Sh:=.val true (.arr 8 .u64)
abbrev auZ:List (Nat×CSh):= [auV,(1,.cells [aC,.own 3]),Ah,(3,fL)]
abbrev uK:Nat×Sh:=(8,fE)
abbrev uJ:Nat×Sh:=(5,fE)
abbrev An:List (Nat×CSh):= [(0,pb)]
abbrev ER:Nat×Sh:=(10,kl)
abbrev rk:Nat×CSh:=(0,aG7)
abbrev L7:List Sh:= [aQ,aQ]
abbrev og:List Sh:= [rH]
abbrev aeu:List Sh:= [eX,aiS,jM]
abbrev Am:List Sh:= [.ife 175]
abbrev Ak:Nat×Sh:=(0,eX)
abbrev aet:List (Nat×CSh):= [(0,Pd),pa,lB]
abbrev Aj:Nat×Sh:=(17,aC)
abbrev Ai:Nat×Sh:=(7,ir)
abbrev auY:List (Nat×CSh):= [iI,(1,Pd),lB,nY,Cy,Cx]
abbrev Ag:Nat×CSh:=(2,F6)
abbrev EQ:Nat×Sh:=(14,LZ)
def zR:af:=⟨[jM],[],true,0,false⟩
abbrev Yg:Type:=dl×Unit
def azw:Shape:=⟨22,[(3,aQ),(6,jM),xp,(8,aC)],[],0,true⟩
abbrev iG:Type:=(UInt64×aF×jR)×Unit
def wj:Shape:=⟨22,[(3,aQ)],[],0,true⟩
abbrev zQ:Type:=m4×Unit
def SM (a3:UInt64) (a6:aF) (a7:Int) (a8:Int):OT (Sum iG aZ):=
 (.br (decide (a8<a7))
 (gd [inB a8 (List.length a6),inR ((8:Int)*a8),decide ((0:Int)<=(8:Int)*a8),inR (a8+(1:Int))] (.ok (.inl ((a3|||cE (UInt8.toUInt64 (List.getD a6 (Int.toNat a8) (0:UInt8))) ((8:Int)*a8),a6,a7,a8+(1:Int),()),()))))
 (.ok (.inr ⟨(.exit 0,wj),((a3,()),())⟩)))
def wk (s:iG):OT (Sum iG aZ):=SM s.1.1 s.1.2.1 s.1.2.2.1 s.1.2.2.2.1
def aie (g0_0:iG->zQ) (s:iG):OT aZ:=(.ok ⟨(.exit 0,wj),g0_0 s⟩)
def SL:aL:=⟨[aQ],[],false⟩
section
variable (ok0:iG->Bool) (g0_0:iG->zQ)
def atS (a0:aF):OT zR.Y:=
 let z0:iG:=(((0:UInt64),a0,(↑(List.length a0):Int),(0:Int),()),())
 (gd [ok0 z0] (.ok ⟨SL,(((g0_0 z0).fst.fst,()),())⟩))
theorem anA (h0:bh wk ok0 (aie g0_0)) (pre:Yg->Bool) (F:Yg->OT zR.Y) (hF:∀ (x:Yg) oy,pre x=true->(F x).run=some oy->(atS ok0 g0_0 x.1.1).run=some oy):aa aj 150 (zR.az pre F):=
 di aIt 150 Tryz.f150 zR [SL] (lg aIt 0 azw [(0,wj)] none none wk bD h0 bD) (λx=>atS ok0 g0_0 x.1.1) hF
end
def Yf (s:iG):Bool:=decide (s.1.1=0/\s.1.2.2.1=(s.1.2.1.length:Int)/\s.1.2.2.2.1=0/\s.1.2.1.length<=4096)
def aid (s:iG):zQ:=((CU s.1.2.1 s.1.2.1.length,()),())
theorem azy:∀ s,Yf s=true->∃ m e,cW wk m s=some e/\(aie aid s).run=some e:=by
 rintro ⟨⟨v,b,n,i,⟨⟩⟩,⟨⟩⟩ h
 have h':=bm h
 dsimp only at h'
 obtain ⟨rfl,rfl,rfl,hl⟩:=h'
 have:=Jy (T:=wk) (λk=>((CU b k,b,(b.length:Int),(k:Int),()),())) b.length (e:=⟨(.exit 0,wj),((CU b b.length,()),())⟩) (λk hk=> ?_) ?_ 0 (Nat.zero_le _)
 ·obtain ⟨m,hm⟩:=this
  exact ⟨m,_,hm,rfl⟩
 ·unfold wk SM
  dsimp only
  rw [OT.ak (ag (by omega)),ae (by simp;exact ⟨ba (by omega),aS (by omega),by omega,aS (by omega)⟩),OT.jf,aj3]
  rfl
 ·unfold wk SM
  dsimp only
  rw [OT.au (bq (by omega)),OT.jf]
def mS (x:Yg):Bool:=decide (x.1.1.length<=4096)
def atT (x:Yg):OT zR.Y:=.ok ⟨SL,((CU x.1.1 x.1.1.length,()),())⟩
theorem azx:aa aj 150 (zR.az mS atT):=anA Yf aid azy _ _ λx oy hp ho=>by
 rw [<-ho]
 have hp':=bm hp
 refine (OT.ak ?_).trans ?_
 ·exact ag ⟨rfl,rfl,rfl,hp'⟩
 ·rfl
def EG:bt:=(zR.az mS atT)
theorem adZ:aa aj 150 EG:=azx
theorem adY:ax EG:=av
def avJ:Env:=aq 150 EG E0
theorem ZE:bV aj te avJ:=aU follows aIt adZ adY
def Im:af:=⟨[aQ,aC],[],true,0,false⟩
abbrev apv:Type:=(UInt64×eU)×Unit
def aaO:aL:=⟨[aQ],[],false⟩
def aAE (a0:UInt64) (a1:Int):OT Im.Y:=
 (.ok ⟨aaO,((cE a0 (↑(UInt64.toNat (i2u a1&&&(63:UInt64))):Int)|||bE a0 (↑(UInt64.toNat ((64:UInt64)-(i2u a1&&&(63:UInt64)))):Int),()),())⟩)
theorem apu (pre:apv->Bool) (F:apv->OT Im.Y) (hF:∀ (x:apv) oy,pre x=true->(F x).run=some oy->(aAE x.1.1 x.1.2.1).run=some oy):aa aj 202 (Im.az pre F):=
 di ZE 202 Tryz.f202 Im [aaO] bD (λx=>aAE x.1.1 x.1.2.1) hF
def rotl (a:UInt64) (n:Int):UInt64:=cE a (UInt64.toNat (i2u n&&&63):Int)|||bE a (UInt64.toNat (64-(i2u n&&&63)):Int)
def af8 (_:apv):Bool:=true
def aAF (x:apv):OT Im.Y:=.ok ⟨aaO,((rotl x.1.1 x.1.2.1,()),())⟩
theorem aDx:aa aj 202 (Im.az af8 aAF):=apu _ _ λx oy _ ho=>ho
def Il:bt:=(Im.az af8 aAF)
theorem akW:aa aj 202 Il:=aDx
theorem akV:ax Il:=av
def aB8:Env:=aq 202 Il avJ
theorem ajd:bV aj te aB8:=aU follows ZE akW akV
def Lo:af:=⟨[aiS],[],true,0,false⟩
abbrev at4:Type:=(UInt8×Unit)×Unit
def SS:aL:=⟨jK,[],false⟩
def aBw (a0:UInt8):OT Lo.Y:=
 (.br (decide ((97:UInt8)<=a0))
 (gd [inR ((↑(UInt8.toNat (a0-(97:UInt8))):Int)+(10:Int))] (.ok ⟨SS,(((↑(UInt8.toNat (a0-(97:UInt8))):Int)+(10:Int),()),())⟩))
 (.ok ⟨SS,(((↑(UInt8.toNat (a0-(48:UInt8))):Int),()),())⟩))
theorem at3 (pre:at4->Bool) (F:at4->OT Lo.Y) (hF:∀ (x:at4) oy,pre x=true->(F x).run=some oy->(aBw x.1.1).run=some oy):aa aj 199 (Lo.az pre F):=
 di ajd 199 Tryz.f199 Lo [SS] bD (λx=>aBw x.1.1) hF
def nib (c:UInt8):Int:=if 97<=c then (UInt8.toNat (c-97):Int)+10 else (UInt8.toNat (c-48):Int)
def ain (_:at4):Bool:=true
def aio (x:at4):OT Lo.Y:=.ok ⟨SS,((nib x.1.1,()),())⟩
theorem aFe:aa aj 199 (Lo.az ain aio):=at3 _ _ λx oy _ ho=>by
 rw [<-ho]
 have hlt:=(x.1.1-97).toNat_lt
 by_cases h:97<=x.1.1
 ·refine (OT.ak (ag h)).trans ((ae (by simp;exact aS (by omega))).trans ?_)
  simp only [aio,nib,if_pos h]
 ·refine (OT.au (bq h)).trans ?_
  simp only [aio,nib,if_neg h]
def Ln:bt:=(Lo.az ain aio)
theorem anG:aa aj 199 Ln:=aFe
theorem anF:ax Ln:=av
def aCs:Env:=aq 199 Ln aB8
theorem ajN:bV aj te aCs:=aU follows ajd anG anF
def qX:af:=⟨[],[],true,0,false⟩
abbrev Lk:Type:=ct
def Lj:aL:=⟨[aev],[],false⟩
def aih:OT qX.Y:=
 (.ok ⟨Lj,(([(7640891576956012808:UInt64),(13503953896175478587:UInt64),(4354685564936845355:UInt64),(11912009170470909681:UInt64),(5840696475078001361:UInt64),(11170449401992604703:UInt64),(2270897969802886507:UInt64),(6620516959819538809:UInt64)],()),())⟩)
theorem aea (pre:Lk->Bool) (F:Lk->OT qX.Y) (hF:∀ (x:Lk) oy,pre x=true->(F x).run=some oy->(aih).run=some oy):aa aj 149 (qX.az pre F):=
 di ajN 149 Tryz.f149 qX [Lj] bD (λx=>aih) hF
def bIV:ap:= [0x6a09e667f3bcc908,0xbb67ae8584caa73b,0x3c6ef372fe94f82b,0xa54ff53a5f1d36f1,0x510e527fade682d1,0x9b05688c2b3e6c1f,0x1f83d9abfb41bd6b,0x5be0cd19137e2179]
def OV (_:Lk):Bool:=true
def aii (_:Lk):OT qX.Y:=.ok ⟨Lj,((bIV,()),())⟩
theorem at1:aa aj 149 (qX.az OV aii):=aea _ _ λx oy _ ho=>ho
def zT:bt:=(qX.az OV aii)
theorem Ym:aa aj 149 zT:=at1
theorem Yl:ax zT:=av
def ajL:Env:=aq 149 zT aCs
theorem PC:bV aj te ajL:=aU follows ajN Ym Yl
def qY:af:=⟨[],[],true,0,false⟩
abbrev Lm:Type:=ct
def Ll:aL:=⟨[.val true (.arr 10 .str)],[],false⟩
def aij:OT qY.Y:=
 (.ok ⟨Ll,(([[(48:UInt8),(49:UInt8),(50:UInt8),(51:UInt8),(52:UInt8),(53:UInt8),(54:UInt8),(55:UInt8),(56:UInt8),(57:UInt8),(97:UInt8),(98:UInt8),(99:UInt8),(100:UInt8),(101:UInt8),(102:UInt8)],[(101:UInt8),(97:UInt8),(52:UInt8),(56:UInt8),(57:UInt8),(102:UInt8),(100:UInt8),(54:UInt8),(49:UInt8),(99:UInt8),(48:UInt8),(50:UInt8),(98:UInt8),(55:UInt8),(53:UInt8),(51:UInt8)],[(98:UInt8),(56:UInt8),(99:UInt8),(48:UInt8),(53:UInt8),(50:UInt8),(102:UInt8),(100:UInt8),(97:UInt8),(101:UInt8),(51:UInt8),(54:UInt8),(55:UInt8),(49:UInt8),(57:UInt8),(52:UInt8)],[(55:UInt8),(57:UInt8),(51:UInt8),(49:UInt8),(100:UInt8),(99:UInt8),(98:UInt8),(101:UInt8),(50:UInt8),(54:UInt8),(53:UInt8),(97:UInt8),(52:UInt8),(48:UInt8),(102:UInt8),(56:UInt8)],[(57:UInt8),(48:UInt8),(53:UInt8),(55:UInt8),(50:UInt8),(52:UInt8),(97:UInt8),(102:UInt8),(101:UInt8),(49:UInt8),(98:UInt8),(99:UInt8),(54:UInt8),(56:UInt8),(51:UInt8),(100:UInt8)],[(50:UInt8),(99:UInt8),(54:UInt8),(97:UInt8),(48:UInt8),(98:UInt8),(56:UInt8),(51:UInt8),(52:UInt8),(100:UInt8),(55:UInt8),(53:UInt8),(102:UInt8),(101:UInt8),(49:UInt8),(57:UInt8)],[(99:UInt8),(53:UInt8),(49:UInt8),(102:UInt8),(101:UInt8),(100:UInt8),(52:UInt8),(97:UInt8),(48:UInt8),(55:UInt8),(54:UInt8),(51:UInt8),(57:UInt8),(50:UInt8),(56:UInt8),(98:UInt8)],[(100:UInt8),(98:UInt8),(55:UInt8),(101:UInt8),(99:UInt8),(49:UInt8),(51:UInt8),(57:UInt8),(53:UInt8),(48:UInt8),(102:UInt8),(52:UInt8),(56:UInt8),(54:UInt8),(50:UInt8),(97:UInt8)],[(54:UInt8),(102:UInt8),(101:UInt8),(57:UInt8),(98:UInt8),(51:UInt8),(48:UInt8),(56:UInt8),(99:UInt8),(50:UInt8),(100:UInt8),(55:UInt8),(49:UInt8),(52:UInt8),(97:UInt8),(53:UInt8)],[(97:UInt8),(50:UInt8),(56:UInt8),(52:UInt8),(55:UInt8),(54:UInt8),(49:UInt8),(53:UInt8),(102:UInt8),(98:UInt8),(57:UInt8),(101:UInt8),(51:UInt8),(99:UInt8),(100:UInt8),(48:UInt8)]],()),())⟩)
theorem aeb (pre:Lm->Bool) (F:Lm->OT qY.Y) (hF:∀ (x:Lm) oy,pre x=true->(F x).run=some oy->(aij).run=some oy):aa aj 197 (qY.az pre F):=
 di PC 197 Tryz.f197 qY [Ll] bD (λx=>aij) hF
def iV:LS:= [[48,49,50,51,52,53,54,55,56,57,97,98,99,100,101,102],
 [101,97,52,56,57,102,100,54,49,99,48,50,98,55,53,51],
 [98,56,99,48,53,50,102,100,97,101,51,54,55,49,57,52],
 [55,57,51,49,100,99,98,101,50,54,53,97,52,48,102,56],
 [57,48,53,55,50,52,97,102,101,49,98,99,54,56,51,100],
 [50,99,54,97,48,98,56,51,52,100,55,53,102,101,49,57],
 [99,53,49,102,101,100,52,97,48,55,54,51,57,50,56,98],
 [100,98,55,101,99,49,51,57,53,48,102,52,56,54,50,97],
 [54,102,101,57,98,51,48,56,99,50,100,55,49,52,97,53],
 [97,50,56,52,55,54,49,53,102,98,57,101,51,99,100,48]]
def OW (_:Lm):Bool:=true
def aik (_:Lm):OT qY.Y:=.ok ⟨Ll,((iV,()),())⟩
theorem at2:aa aj 197 (qY.az OW aik):=aeb _ _ λx oy _ ho=>ho
def zU:bt:=(qY.az OW aik)
theorem Yo:aa aj 197 zU:=at2
theorem Yn:ax zU:=av
def ajM:Env:=aq 197 zU ajL
theorem PD:bV aj te ajM:=aU follows PC Yo Yn
def Lw:af:=⟨[eX,aC,aC,aC,aC,aQ,aQ],[iI],false,1,true⟩
abbrev at9:Type:=(Unit×Int×Int×Int×Int×UInt64×m4)×uA
def aee:aL:=⟨[],[iI],false⟩
def aBx (a1:Int) (a2:Int) (a3:Int) (a4:Int) (a5:UInt64) (a6:UInt64) (c0:ap):OT Lw.Y:=
 let z0:Bool:=inB a1 16
 let z1:Nat:=List.length c0
 let z2:Bool:=decide (Int.toNat a1+0<z1)
 let z3:Bool:=inB a2 16
 let z4:Bool:=inB a4 16
 let z5:ap:=List.set c0 (Int.toNat a1+0) (List.getD c0 (Int.toNat a1+0) (0:UInt64)+(List.getD c0 (Int.toNat a2+0) (0:UInt64)+a5))
 let z6:Nat:=List.length z5
 let z7:Bool:=decide (Int.toNat a4+0<z6)
 let z8:Bool:=inB a3 16
 let z9:ap:=List.set z5 (Int.toNat a4+0) (rotl (List.getD z5 (Int.toNat a4+0) (0:UInt64)^^^List.getD z5 (Int.toNat a1+0) (0:UInt64)) (-32:Int))
 let z10:Nat:=List.length z9
 let z11:Bool:=decide (Int.toNat a3+0<z10)
 let z12:ap:=List.set z9 (Int.toNat a3+0) (List.getD z9 (Int.toNat a3+0) (0:UInt64)+List.getD z9 (Int.toNat a4+0) (0:UInt64))
 let z13:Nat:=List.length z12
 let z14:Bool:=decide (Int.toNat a2+0<z13)
 let z15:ap:=List.set z12 (Int.toNat a2+0) (rotl (List.getD z12 (Int.toNat a2+0) (0:UInt64)^^^List.getD z12 (Int.toNat a3+0) (0:UInt64)) (-24:Int))
 let z16:Nat:=List.length z15
 let z17:Bool:=decide (Int.toNat a1+0<z16)
 let z18:ap:=List.set z15 (Int.toNat a1+0) (List.getD z15 (Int.toNat a1+0) (0:UInt64)+(List.getD z15 (Int.toNat a2+0) (0:UInt64)+a6))
 let z19:Nat:=List.length z18
 let z20:Bool:=decide (Int.toNat a4+0<z19)
 let z21:ap:=List.set z18 (Int.toNat a4+0) (rotl (List.getD z18 (Int.toNat a4+0) (0:UInt64)^^^List.getD z18 (Int.toNat a1+0) (0:UInt64)) (-16:Int))
 let z22:Nat:=List.length z21
 let z23:Bool:=decide (Int.toNat a3+0<z22)
 let z24:ap:=List.set z21 (Int.toNat a3+0) (List.getD z21 (Int.toNat a3+0) (0:UInt64)+List.getD z21 (Int.toNat a4+0) (0:UInt64))
 let z25:Nat:=List.length z24
 let z26:Bool:=decide (Int.toNat a2+0<z25)
 (gd [z0,z2,z3,decide (Int.toNat a2+0<z1),z0,z2,z4,z7,z0,decide (Int.toNat a1+0<z6),z4,z7,z8,z11,z4,decide (Int.toNat a4+0<z10),z8,z11,z3,z14,z8,decide (Int.toNat a3+0<z13),z3,z14,z0,z17,z3,decide (Int.toNat a2+0<z16),z0,z17,z4,z20,z0,decide (Int.toNat a1+0<z19),z4,z20,z8,z23,z4,decide (Int.toNat a4+0<z22),z8,z23,z3,z26,z8,decide (Int.toNat a3+0<z25),z3,z26] (.ok ⟨aee,((),List.set z24 (Int.toNat a2+0) (rotl (List.getD z24 (Int.toNat a2+0) (0:UInt64)^^^List.getD z24 (Int.toNat a3+0) (0:UInt64)) (-63:Int)),())⟩))
theorem at8 (pre:at9->Bool) (F:at9->OT Lw.Y) (hF:∀ (x:at9) oy,pre x=true->(F x).run=some oy->(aBx x.1.2.1 x.1.2.2.1 x.1.2.2.2.1 x.1.2.2.2.2.1 x.1.2.2.2.2.2.1 x.1.2.2.2.2.2.2.1 x.2.1).run=some oy):aa aj 200 (Lw.az pre F):=
 di PD 200 Tryz.f200 Lw [aee] bD (λx=>aBx x.1.2.1 x.1.2.2.1 x.1.2.2.2.1 x.1.2.2.2.2.1 x.1.2.2.2.2.2.1 x.1.2.2.2.2.2.2.1 x.2.1) hF
def ayv (v:ap) (a b c d:Nat) (x y:UInt64):ap:=
 let v1:=v.set a (v.getD a 0+(v.getD b 0+x))
 let v2:=v1.set d (rotl (v1.getD d 0^^^v1.getD a 0) (-32))
 let v3:=v2.set c (v2.getD c 0+v2.getD d 0)
 let v4:=v3.set b (rotl (v3.getD b 0^^^v3.getD c 0) (-24))
 let v5:=v4.set a (v4.getD a 0+(v4.getD b 0+y))
 let v6:=v5.set d (rotl (v5.getD d 0^^^v5.getD a 0) (-16))
 let v7:=v6.set c (v6.getD c 0+v6.getD d 0)
 v7.set b (rotl (v7.getD b 0^^^v7.getD c 0) (-63))
theorem qx (v:ap) (a b c d:Nat) (x y:UInt64):(ayv v a b c d x y).length=v.length:=by
 simp only [ayv,cu]
def ra (x:at9):Bool:=inB x.1.2.1 16&&inB x.1.2.2.1 16&&inB x.1.2.2.2.1 16&&inB x.1.2.2.2.2.1 16&&decide (x.2.1.length=16)
def aBy (x:at9):OT Lw.Y:=.ok ⟨aee,((),ayv x.2.1 x.1.2.1.toNat x.1.2.2.1.toNat x.1.2.2.2.1.toNat x.1.2.2.2.2.1.toNat x.1.2.2.2.2.2.1 x.1.2.2.2.2.2.2.1,())⟩
theorem aFg:aa aj 200 (Lw.az ra aBy):=at8 _ _ λx oy hp ho=>by
 rw [<-ho]
 obtain ⟨⟨⟨⟩,a,b,c,d,x,y,⟨⟩⟩,⟨v,⟨⟩⟩⟩:=x
 simp only [ra,aw,decide_eq_true_eq] at hp
 obtain ⟨⟨⟨⟨ha,hb⟩,hc⟩,hd⟩,hv⟩:=hp
 have na:=Wf ha
 have nb:=Wf hb
 have nc:=Wf hc
 have nd:=Wf hd
 refine (ae ?_).trans rfl
 simp only [cu,hv,ha,hb,hc,hd,Nat.add_zero,na,nb,nc,nd,decide_true,aA,aI,Bool.and_self]
def Lu:bt:=(Lw.az ra aBy)
theorem anK:aa aj 200 Lu:=aFg
theorem anJ:ax Lu:=av
def aCu:Env:=aq 200 Lu ajM
theorem ajP:bV aj te aCu:=aU follows PD anK anJ
def aeo:af:=⟨[aC,eX,ir],[iI,(1,.cells [YU])],false,2,true⟩
abbrev aGZ:Type:=jS×ap×dl×Unit
def aut:aL:=⟨[aQ],[iI,(1,.cells [YU])],false⟩
def aGX (a0:Int) (c0:ap) (c1_0:aF):OT aeo.Y:=
 let z0:Int:=nib (List.getD c1_0 (Int.toNat a0) (0:UInt8))
 (gd [inB a0 (List.length c1_0),inB z0 16,decide (Int.toNat z0+0<List.length c0)] (.ok ⟨aut,((List.getD c0 (Int.toNat z0+0) (0:UInt64),()),c0,(c1_0,()),())⟩))
theorem azW (pre:aGZ->Bool) (F:aGZ->OT aeo.Y) (hF:∀ (x:aGZ) oy,pre x=true->(F x).run=some oy->(aGX x.1.1 x.2.1 x.2.2.1.1).run=some oy):aa aj 198 (aeo.az pre F):=
 di ajP 198 Tryz.f198 aeo [aut] bD (λx=>aGX x.1.1 x.2.1 x.2.2.1.1) hF
def atF (m:ap) (row:aF) (i:Int):UInt64:=m.getD (nib (row.getD i.toNat 0)).toNat 0
def ri (x:aGZ):Bool:=inB x.1.1 x.2.2.1.1.length&&inB (nib (x.2.2.1.1.getD x.1.1.toNat 0)) 16&&decide (x.2.1.length=16)
def aGY (x:aGZ):OT aeo.Y:=.ok ⟨aut,((atF x.2.1 x.2.2.1.1 x.1.1,()),x.2.1,(x.2.2.1.1,()),())⟩
theorem aGW:aa aj 198 (aeo.az ri aGY):=azW _ _ λx oy hp ho=>by
 rw [<-ho]
 obtain ⟨⟨i,⟨⟩,⟨⟩,⟨⟩⟩,⟨m,⟨row,⟨⟩⟩,⟨⟩⟩⟩:=x
 simp only [ri,aw,decide_eq_true_eq] at hp
 obtain ⟨⟨h1,h2⟩,h3⟩:=hp
 have n2:=Wf h2
 refine (ae ?_).trans rfl
 simp only [h1,h2,h3,Nat.add_zero,n2,decide_true,aA,aI,Bool.and_self]
def S7:bt:=(aeo.az ri aGY)
theorem auu:aa aj 198 S7:=aGW
theorem aus:ax S7:=av
def aHd:Env:=aq 198 S7 aCu
theorem As:bV aj te aHd:=aU follows ajP auu aus
def zZ:af:=⟨[aev,.val true (.arr 128 .u8),aQ,rH],[],true,0,false⟩
abbrev YG:Type:=(ap×aF×UInt64×Bool×Unit)×Unit
def azJ:Shape:=⟨127,[eD,uC,uK,(9,gv),(11,CE),(37,aC)],[iI,nX,lB,nY,Cy],0,true⟩
abbrev eS:Type:=LU×ap×aF×o5
def wD:Shape:=⟨127,[eD,CA,Al,(11,gv)],aiU,0,true⟩
abbrev rg:Type:=LR×o7
def azU (a37:Int) (c0:ap) (c1:aF) (c2:ap) (c3:ap) (c4:ap):OT (Sum eS aZ):=
 let z0:Bool:=inR ((8:Int)*a37)
 let z1:aF:=List.take (Int.toNat ((8:Int)*a37+(8:Int)-(8:Int)*a37)) (List.drop (Int.toNat ((8:Int)*a37)) c1)
 (.br (decide (a37<(16:Int)))
 (gd [z0,z0,inR ((8:Int)*a37+(8:Int)),decide (128<=List.length c1)&&cp ((8:Int)*a37) ((8:Int)*a37+(8:Int)) 128,mS ((z1,()),()),inB a37 16,decide (Int.toNat a37+0<List.length c4),inR (a37+(1:Int))] (.ok (.inl (((),(),(),(),(),a37+(1:Int),()),c0,c1,c2,c3,List.set c4 (Int.toNat a37+0) (CU z1 (List.length z1)),()))))
 (.ok (.inr ⟨(.exit 0,wD),(((),(),(),(),()),c0,c2,c3,c4,())⟩)))
def Hj (s:eS):OT (Sum eS aZ):=azU s.1.2.2.2.2.2.1 s.2.1 s.2.2.1 s.2.2.2.1 s.2.2.2.2.1 s.2.2.2.2.2.1
def aix (g0_0:eS->rg) (s:eS):OT aZ:=(.ok ⟨(.exit 0,wD),g0_0 s⟩)
def azI:Shape:=⟨127,aBK,[iI,pa,lB,nY,(4,.row .str)],0,true⟩
abbrev eu:Type:=aBD
def azH:Shape:=⟨127,[eD,CA,Al,(11,gv),CB,(16,.fn 198 [3,5]),(51,aC),(59,aC)],auX,0,true⟩
abbrev dj:Type:=(Unit×YS)×auP
def wB:Shape:=⟨127,[eD,CA,Al,(11,gv),CB,(16,.fn 198 [3,5]),(51,aC)],auX,0,true⟩
abbrev iN:Type:=(Unit×LU)×auP
def azS (a51:Int) (a59:Int) (c0:ap) (c1:ap) (c2:ap) (c3:ap) (c4:LS) (c5_0:aF):OT (Sum dj aZ):=
 let z0:Bool:=inR ((2:Int)*a59)
 let z1:Cs:=((),(),())
 let z2:ap×FZ×PUnit:=(c3,(c5_0,()),())
 let z3:UInt64:=atF c3 c5_0 ((2:Int)*a59)
 let z4:UInt64:=atF c3 c5_0 ((2:Int)*a59+(1:Int))
 (.br (decide (a59<(4:Int)))
 (gd [inR ((4:Int)+a59),inR ((8:Int)+a59),inR ((12:Int)+a59),z0,ri (((2:Int)*a59,z1),z2),z0,inR ((2:Int)*a59+(1:Int)),ri (((2:Int)*a59+(1:Int),z1),z2),ra (((),a59,(4:Int)+a59,(8:Int)+a59,(12:Int)+a59,z3,z4,()),c2,()),inR (a59+(1:Int))] (.ok (.inl (((),(),(),(),(),(),a51,a59+(1:Int),()),c0,c1,ayv c2 (Int.toNat a59) (Int.toNat ((4:Int)+a59)) (Int.toNat ((8:Int)+a59)) (Int.toNat ((12:Int)+a59)) z3 z4,c3,c4,(c5_0,()),()))))
 (.ok (.inr ⟨(.exit 4,wB),(((),(),(),(),(),(),a51,()),c0,c1,c2,c3,c4,(c5_0,()),())⟩)))
def Hh (s:dj):OT (Sum dj aZ):=azS s.1.2.2.2.2.2.2.1 s.1.2.2.2.2.2.2.2.1 s.2.1 s.2.2.1 s.2.2.2.1 s.2.2.2.2.1 s.2.2.2.2.2.1 s.2.2.2.2.2.2.1.1
def aiv (g4_4:dj->iN) (s:dj):OT aZ:=(.ok ⟨(.exit 4,wB),g4_4 s⟩)
def azG:Shape:=⟨127,[eD,CA,Al,(11,gv),CB,(16,.fn 198 [3,5]),(51,aC),(80,aC)],auX,0,true⟩
abbrev dL:Type:=(Unit×YS)×auP
def wA:Shape:=⟨127,aBK,[iI,pa,lB,nY,(4,.row .str)],0,true⟩
abbrev kj:Type:=aBD
def azR (a51:Int) (a80:Int) (c0:ap) (c1:ap) (c2:ap) (c3:ap) (c4:LS) (c5_0:aF):OT (Sum dL aZ):=
 let z0:Bool:=inR (a80+(1:Int))
 let z1:Int:=(4:Int)+Int.tmod (a80+(1:Int)) (4:Int)
 let z2:Int:=(8:Int)+Int.tmod (a80+(2:Int)) (4:Int)
 let z3:Int:=(12:Int)+Int.tmod (a80+(3:Int)) (4:Int)
 let z4:Bool:=inR ((2:Int)*a80)
 let z5:Cs:=((),(),())
 let z6:ap×FZ×PUnit:=(c3,(c5_0,()),())
 let z7:UInt64:=atF c3 c5_0 ((8:Int)+(2:Int)*a80)
 let z8:UInt64:=atF c3 c5_0 ((9:Int)+(2:Int)*a80)
 (.br (decide (a80<(4:Int)))
 (gd [z0,inR z1,inR (a80+(2:Int)),inR z2,inR (a80+(3:Int)),inR z3,z4,inR ((8:Int)+(2:Int)*a80),ri (((8:Int)+(2:Int)*a80,z5),z6),z4,inR ((9:Int)+(2:Int)*a80),ri (((9:Int)+(2:Int)*a80,z5),z6),ra (((),a80,z1,z2,z3,z7,z8,()),c2,()),z0] (.ok (.inl (((),(),(),(),(),(),a51,a80+(1:Int),()),c0,c1,ayv c2 (Int.toNat a80) (Int.toNat z1) (Int.toNat z2) (Int.toNat z3) z7 z8,c3,c4,(c5_0,()),()))))
 (.ok (.inr ⟨(.exit 6,wA),(((),(),(),(),(),a51,()),c0,c1,c2,c3,c4,())⟩)))
def Hg (s:dL):OT (Sum dL aZ):=azR s.1.2.2.2.2.2.2.1 s.1.2.2.2.2.2.2.2.1 s.2.1 s.2.2.1 s.2.2.2.1 s.2.2.2.2.1 s.2.2.2.2.2.1 s.2.2.2.2.2.2.1.1
def aiu (g6_6:dL->kj) (s:dL):OT aZ:=(.ok ⟨(.exit 6,wA),g6_6 s⟩)
def wC:Shape:=⟨127,[eD,CA,Al],aiR,0,true⟩
abbrev rf:Type:=nW×o5
def azT (ok4:dj->Bool) (g4_4:dj->iN) (ok6:dL->Bool) (g6_6:dL->kj) (a51:Int) (c0:ap) (c1:ap) (c2:ap) (c3:ap) (c4:LS):OT (Sum eu aZ):=
 let z0:Int:=Int.tmod a51 (10:Int)
 let z1:dj:=(((),(),(),(),(),(),a51,(0:Int),()),c0,c1,c2,c3,c4,(List.getD c4 (Int.toNat z0+0) [],()),())
 let z2:iN:=g4_4 z1
 let z3:=z2.snd
 let z4:=z3.snd
 let z5:=z4.snd
 let z6:=z5.snd
 let z7:=z6.snd
 let z8:dj:=(((),(),(),(),(),(),z2.fst.snd.snd.snd.snd.snd.snd.fst,(0:Int),()),z3.fst,z4.fst,z5.fst,z6.fst,z7.fst,(z7.snd.fst.fst,()),())
 let z9:eu:=g6_6 z8
 let z10:=z9.snd
 let z11:=z10.snd
 let z12:=z11.snd
 let z13:=z12.snd
 (.br (decide (a51<(12:Int)))
 (gd [inB z0 10,decide (Int.toNat z0+0<List.length c4),ok4 z1,ok6 z8,inR (z9.fst.snd.snd.snd.snd.snd.fst+(1:Int))] (.ok (.inl (((),(),(),(),(),z9.fst.snd.snd.snd.snd.snd.fst+(1:Int),()),z10.fst,z11.fst,z12.fst,z13.fst,z13.snd.fst,()))))
 (.ok (.inr ⟨(.exit 2,wC),(((),(),(),()),c0,c1,c2,())⟩)))
def Hi (ok4:dj->Bool) (g4_4:dj->iN) (ok6:dL->Bool) (g6_6:dL->kj) (s:eu):OT (Sum eu aZ):=azT ok4 g4_4 ok6 g6_6 s.1.2.2.2.2.2.1 s.2.1 s.2.2.1 s.2.2.2.1 s.2.2.2.2.1 s.2.2.2.2.2.1
def aiw (g2_2:eu->rf) (s:eu):OT aZ:=(.ok ⟨(.exit 2,wC),g2_2 s⟩)
def azF:Shape:=⟨127,[eD,CA,Al,(109,aC)],aiR,0,true⟩
abbrev eR:Type:=(Unit×m5)×o5
def wz:Shape:=⟨127,[eD,CA],uD,0,true⟩
abbrev re:Type:=mY
def azQ (a109:Int) (c0:ap) (c1:ap) (c2:ap):OT (Sum eR aZ):=
 let z0:Bool:=inB a109 8
 let z1:Bool:=decide (Int.toNat a109+0<List.length c0)
 let z2:Nat:=List.length c2
 (.br (decide (a109<(8:Int)))
 (gd [z0,z1,inB a109 16,decide (Int.toNat a109+0<z2),inR (a109+(8:Int)),inB (a109+(8:Int)) 16,decide (Int.toNat (a109+(8:Int))+0<z2),z0,z1,inR (a109+(1:Int))] (.ok (.inl (((),(),(),a109+(1:Int),()),List.set c0 (Int.toNat a109+0) (List.getD c0 (Int.toNat a109+0) (0:UInt64)^^^(List.getD c2 (Int.toNat a109+0) (0:UInt64)^^^List.getD c2 (Int.toNat (a109+(8:Int))+0) (0:UInt64))),c1,c2,()))))
 (.ok (.inr ⟨(.exit 8,wz),(((),(),()),c0,c1,())⟩)))
def Hf (s:eR):OT (Sum eR aZ):=azQ s.1.2.2.2.1 s.2.1 s.2.2.1 s.2.2.2.1
def ait (g8_8:eR->re) (s:eR):OT aZ:=(.ok ⟨(.exit 8,wz),g8_8 s⟩)
def He:aL:=⟨[aev],[],false⟩
def auo (ok0:eS->Bool) (g0_0:eS->rg) (ok4:dj->Bool) (g4_4:dj->iN) (ok6:dL->Bool) (g6_6:dL->kj) (ok2:eu->Bool) (g2_2:eu->rf) (ok8:eR->Bool) (g8_8:eR->re) (a0:ap) (a1:aF) (a2:UInt64) (a3:Bool):OT zZ.Y:=
 let z0:PUnit×PUnit×auM:=((),(),(),(),(),(0:Int),())
 let z1:ap:=tab a0 8 (0:UInt64)
 let z2:aF:=tab a1 128 (0:UInt8)
 let z3:ap:= []++(List.take 8 z1++List.drop (0+min (List.length z1) 8) [(0:UInt64),(0:UInt64),(0:UInt64),(0:UInt64),(0:UInt64),(0:UInt64),(0:UInt64),(0:UInt64),(0:UInt64),(0:UInt64),(0:UInt64),(0:UInt64),(0:UInt64),(0:UInt64),(0:UInt64),(0:UInt64)])
 let z4:ap:=List.take 8 z3++([(7640891576956012808:UInt64),(13503953896175478587:UInt64),(4354685564936845355:UInt64),(11912009170470909681:UInt64),(5840696475078001361:UInt64),(11170449401992604703:UInt64),(2270897969802886507:UInt64),(6620516959819538809:UInt64)]++List.drop 16 z3)
 let z5:ap:=List.set z4 12 (List.getD z4 12 0^^^a2)
 let z6:ap×PUnit:=([(0:UInt64),(0:UInt64),(0:UInt64),(0:UInt64),(0:UInt64),(0:UInt64),(0:UInt64),(0:UInt64),(0:UInt64),(0:UInt64),(0:UInt64),(0:UInt64),(0:UInt64),(0:UInt64),(0:UInt64),(0:UInt64)],())
 let z7:eS:=(z0,z1,z2,[(0:UInt64),(0:UInt64),(0:UInt64),(0:UInt64),(0:UInt64),(0:UInt64),(0:UInt64),(0:UInt64)],List.set z5 14 (~~~List.getD z5 14 0),z6)
 let z8:PUnit×PUnit×auM:=((),(),(),(),(),(0:Int),())
 let z9:=(g0_0 z7).snd
 let z10:=z9.snd
 let z11:=z10.snd
 let z12:LS×PUnit:=([List.getD iV 0 [],List.getD iV 1 [],List.getD iV 2 [],List.getD iV 3 [],List.getD iV 4 [],List.getD iV 5 [],List.getD iV 6 [],List.getD iV 7 [],List.getD iV 8 [],List.getD iV 9 []],())
 let z13:eu:=(z8,z9.fst,z10.fst,z11.fst,z11.snd.fst,z12)
 let z14:auM:=((),(),(),(0:Int),())
 let z15:=(g2_2 z13).snd
 let z16:=z15.snd
 let z17:eR:=(z14,z15.fst,z16.fst,z16.snd.fst,())
 let z18:=(g8_8 z17).snd
 let z19:=z18.fst
 let z20:=z18.snd.fst
 let z21:ap:=lay z20 z19 8 (0:UInt64)
 let z22:eS:=(z0,z1,z2,[(0:UInt64),(0:UInt64),(0:UInt64),(0:UInt64),(0:UInt64),(0:UInt64),(0:UInt64),(0:UInt64)],z5,z6)
 let z23:=(g0_0 z22).snd
 let z24:=z23.snd
 let z25:=z24.snd
 let z26:eu:=(z8,z23.fst,z24.fst,z25.fst,z25.snd.fst,z12)
 let z27:=(g2_2 z26).snd
 let z28:=z27.snd
 let z29:eR:=(z14,z27.fst,z28.fst,z28.snd.fst,())
 let z30:=(g8_8 z29).snd
 let z31:=z30.fst
 let z32:=z30.snd.fst
 let z33:ap:=lay z32 z31 8 (0:UInt64)
 (.br (a3)
 (gd [ok0 z7,ok2 z13,ok8 z17,decide (8<=List.length z19),decide ((8/1:Nat)+0<=List.length z20),decide (8<=List.length z21)] (.ok ⟨He,((tab z21 8 (0:UInt64),()),())⟩))
 (gd [ok0 z22,ok2 z26,ok8 z29,decide (8<=List.length z31),decide ((8/1:Nat)+0<=List.length z32),decide (8<=List.length z33)] (.ok ⟨He,((tab z33 8 (0:UInt64),()),())⟩)))
theorem anM (ok0:eS->Bool) (g0_0:eS->rg) (ok4:dj->Bool) (g4_4:dj->iN) (ok6:dL->Bool) (g6_6:dL->kj) (ok2:eu->Bool) (g2_2:eu->rf) (ok8:eR->Bool) (g8_8:eR->re) (h0:bh Hj ok0 (aix g0_0)) (h4:bh Hh ok4 (aiv g4_4)) (h6:bh Hg ok6 (aiu g6_6)) (h2:bh (Hi ok4 g4_4 ok6 g6_6) ok2 (aiw g2_2)) (h8:bh Hf ok8 (ait g8_8)) (pre:YG->Bool) (F:YG->OT zZ.Y) (hF:∀ (x:YG) oy,pre x=true->(F x).run=some oy->(auo ok0 g0_0 ok4 g4_4 ok6 g6_6 ok2 g2_2 ok8 g8_8 x.1.1 x.1.2.1 x.1.2.2.1 x.1.2.2.2.1).run=some oy):aa aj 183 (zZ.az pre F):=
 di As 183 Tryz.f183 zZ [He] (lg As 8 azF [(8,wz)] none none Hf bD h8 (lg As 2 azI [(2,wC)] none none (Hi ok4 g4_4 ok6 g6_6) (lg As 6 azG [(6,wA)] none none Hg bD h6 (lg As 4 azH [(4,wB)] none none Hh bD h4 bD)) h2 (lg As 0 azJ [(0,wD)] none none Hj bD h0 bD))) (λx=>auo ok0 g0_0 ok4 g4_4 ok6 g6_6 ok2 g2_2 ok8 g8_8 x.1.1 x.1.2.1 x.1.2.2.1 x.1.2.2.2.1) hF
def aAf (b:aF) (i:Nat):UInt64:=CU ((b.drop (8*i)).take 8) 8
def xA (b:aF):ap:=upto (λk m=>m.set k (aAf b k)) (List.replicate 16 0) 16
def Qo (row:aF):Bool:=decide (row.length=16)&&(List.range 16).all λi=>inB (nib (row.getD i 0)) 16
theorem aps {row:List UInt8} (h:Qo row=true) {i:Nat} (hi:i<16):inB (nib (row.getD i 0)) 16=true:=by
 simp only [Qo,aw,fZ] at h
 exact h.2 i (by simpa using hi)
theorem wE {m:List UInt64} {row:List UInt8} (hm:m.length=16) (hr:Qo row=true) {i:Int} (h0:0<=i) (h1:i<16) (u:m6) (u2:Unit) (u3:Unit):ri ((i,u),m,(row,u2),u3)=true:=by
 have hl:row.length=16:=by
  simp only [Qo,aw,decide_eq_true_eq] at hr
  exact hr.1
 have:=aps hr (i:=i.toNat) (by omega)
 simp only [ri,aw,decide_eq_true_eq]
 exact ⟨⟨ba (by omega),this⟩,hm⟩
theorem Lv {v:List UInt64} (hv:v.length=16) {a b c d:Int} (ha:0<=a/\a<16) (hb:0<=b/\b<16) (hc:0<=c/\c<16) (hd:0<=d/\d<16) (x y:UInt64) (u1 u2 u3:Unit):ra ((u1,a,b,c,d,x,y,u2),v,u3)=true:=by
 simp only [ra,aw,decide_eq_true_eq]
 exact ⟨⟨⟨⟨ba ha,ba hb⟩,ba hc⟩,ba hd⟩,hv⟩
def LL (s:eS):Bool:=decide (s.1.2.2.2.2.2.1=0/\s.2.2.1.length=128/\s.2.2.2.2.2.1=List.replicate 16 0)
def ww (s:eS):rg:=(((),(),(),(),()),s.2.1,s.2.2.2.1,s.2.2.2.2.1,xA s.2.2.1,())
theorem azP:bh Hj LL (aix ww):=by
 rintro ⟨⟨⟨⟩,⟨⟩,⟨⟩,⟨⟩,⟨⟩,i,⟨⟩⟩,⟨c0,c1,c2,c3,c4,⟨⟩⟩⟩ h
 have h':=bm h
 dsimp only at h'
 obtain ⟨rfl,hl,rfl⟩:=h'
 have:=(bf (T:=Hj) (λk m=>((((),(),(),(),(),(k:Int),()),c0,c1,c2,c3,m,()):eS)) (λk m=>m.set k (aAf c1 k))
  (λm=>(⟨(.exit 0,wD),(((),(),(),(),()),c0,c2,c3,m,())⟩:aZ)) 16 (List.replicate 16 0) (λ_ m=>m.length=16) (by simp) (λk m hk hm=>⟨?_,by rw [cu];exact hm⟩) (λm hm=> ?_)).1
 ·obtain ⟨n,hn⟩:=this
  exact ⟨n,_,hn,rfl⟩
 ·have e1:(8*(k:Int)+8-8*(k:Int)).toNat=8:=by omega
  have e2:(8*(k:Int)).toNat=8*k:=by omega
  have hw:((c1.drop (8*k)).take 8).length=8:=by simp;omega
  refine (OT.ak (ag (by dsimp only;omega))).trans ((ae ?_).trans ?_)
  ·simp only [e1,e2,hl,hm,aA,aI,aJ,aw]
   refine ⟨aS (by omega),aS (by omega),aS (by omega),⟨by decide,cI (by omega)⟩,?_,ba (by omega),ag (by omega),aS (by omega)⟩
   simp only [mS,hw]
   decide
  ·simp only [OT.jf,e1,e2,hw,Nat.add_zero]
   rfl
 ·exact OT.au (bq (by dsimp only;omega))
def arQ (m:ap) (row:aF) (v:ap):ap:=upto (λk v=>ayv v k (4+k) (8+k) (12+k) (atF m row (2*(k:Int))) (atF m row (2*(k:Int)+1))) v 4
def arP (m:ap) (row:aF) (v:ap):ap:=upto (λk v=>ayv v k (4+(k+1)%4) (8+(k+2)%4) (12+(k+3)%4) (atF m row (8+2*(k:Int))) (atF m row (9+2*(k:Int)))) v 4
theorem tA (m:ap) (row:aF) (v:ap):(arQ m row v).length=v.length:=by simp only [arQ,upto,qx]
theorem FH (m:ap) (row:aF) (v:ap):(arP m row v).length=v.length:=by simp only [arP,upto,qx]
def oY (s:dj):Bool:=decide (s.1.2.2.2.2.2.2.2.1=0/\s.2.2.2.1.length=16/\s.2.2.2.2.1.length=16)&&Qo s.2.2.2.2.2.2.1.1
def rc (s:dj):iN:=(((),(),(),(),(),(),s.1.2.2.2.2.2.2.1,()),s.2.1,s.2.2.1,arQ s.2.2.2.2.1 s.2.2.2.2.2.2.1.1 s.2.2.2.1,s.2.2.2.2.1,s.2.2.2.2.2.1,(s.2.2.2.2.2.2.1.1,()),())
theorem azN:bh Hh oY (aiv rc):=by
 rintro ⟨⟨⟨⟩,⟨⟩,⟨⟩,⟨⟩,⟨⟩,⟨⟩,r,i,⟨⟩⟩,⟨c0,c1,v,m,c4,⟨row,⟨⟩⟩,⟨⟩⟩⟩ h
 simp only [oY,aw,decide_eq_true_eq] at h
 obtain ⟨⟨rfl,hv,hm⟩,hr⟩:=h
 have:=(bf (T:=Hh) (λk v=>((((),(),(),(),(),(),r,(k:Int),()),c0,c1,v,m,c4,(row,()),()):dj)) (λk v=>ayv v k (4+k) (8+k) (12+k) (atF m row (2*(k:Int))) (atF m row (2*(k:Int)+1)))
  (λv=>(⟨(.exit 4,wB),(((),(),(),(),(),(),r,()),c0,c1,v,m,c4,(row,()),())⟩:aZ)) 4 v (λ_ v=>v.length=16) hv (λk v hk hv=>⟨?_,by rw [qx];exact hv⟩) (λv hv=> ?_)).1
 ·obtain ⟨n,hn⟩:=this
  exact ⟨n,_,hn,rfl⟩
 ·have e1:(4+(k:Int)).toNat=4+k:=by omega
  have e2:(8+(k:Int)).toNat=8+k:=by omega
  have e3:(12+(k:Int)).toNat=12+k:=by omega
  refine (OT.ak (ag (by dsimp only;omega))).trans ((ae ?_).trans ?_)
  ·simp only [aA,aI,aJ,aw]
   exact ⟨aS (by omega),aS (by omega),aS (by omega),aS (by omega),wE hm hr (by omega) (by omega) _ _ _,aS (by omega),aS (by omega),wE hm hr (by omega) (by omega) _ _ _,Lv hv (by omega) (by omega) (by omega) (by omega) _ _ _ _ _,aS (by omega)⟩
  ·simp only [OT.jf,e1,e2,e3]
   rfl
 ·exact OT.au (bq (by dsimp only;omega))
def oX (s:dL):Bool:=decide (s.1.2.2.2.2.2.2.2.1=0/\s.2.2.2.1.length=16/\s.2.2.2.2.1.length=16)&&Qo s.2.2.2.2.2.2.1.1
def wu (s:dL):kj:=(((),(),(),(),(),s.1.2.2.2.2.2.2.1,()),s.2.1,s.2.2.1,arP s.2.2.2.2.1 s.2.2.2.2.2.2.1.1 s.2.2.2.1,s.2.2.2.2.1,s.2.2.2.2.2.1,())
theorem azM:bh Hg oX (aiu wu):=by
 rintro ⟨⟨⟨⟩,⟨⟩,⟨⟩,⟨⟩,⟨⟩,⟨⟩,r,i,⟨⟩⟩,⟨c0,c1,v,m,c4,⟨row,⟨⟩⟩,⟨⟩⟩⟩ h
 simp only [oX,aw,decide_eq_true_eq] at h
 obtain ⟨⟨rfl,hv,hm⟩,hr⟩:=h
 have:=(bf (T:=Hg) (λk v=>((((),(),(),(),(),(),r,(k:Int),()),c0,c1,v,m,c4,(row,()),()):dL)) (λk v=>ayv v k (4+(k+1)%4) (8+(k+2)%4) (12+(k+3)%4) (atF m row (8+2*(k:Int))) (atF m row (9+2*(k:Int))))
  (λv=>(⟨(.exit 6,wA),(((),(),(),(),(),r,()),c0,c1,v,m,c4,())⟩:aZ)) 4 v (λ_ v=>v.length=16) hv (λk v hk hv=>⟨?_,by rw [qx];exact hv⟩) (λv hv=> ?_)).1
 ·obtain ⟨n,hn⟩:=this
  exact ⟨n,_,hn,rfl⟩
 ·have t1:Int.tmod ((k:Int)+1) 4=(((k+1)%4:Nat):Int):=by rw [Int.tmod_eq_emod_of_nonneg (by omega)];omega
  have t2:Int.tmod ((k:Int)+2) 4=(((k+2)%4:Nat):Int):=by rw [Int.tmod_eq_emod_of_nonneg (by omega)];omega
  have t3:Int.tmod ((k:Int)+3) 4=(((k+3)%4:Nat):Int):=by rw [Int.tmod_eq_emod_of_nonneg (by omega)];omega
  have e1:(4+(((k+1)%4:Nat):Int)).toNat=4+(k+1)%4:=by omega
  have e2:(8+(((k+2)%4:Nat):Int)).toNat=8+(k+2)%4:=by omega
  have e3:(12+(((k+3)%4:Nat):Int)).toNat=12+(k+3)%4:=by omega
  refine (OT.ak (ag (by dsimp only;omega))).trans ((ae ?_).trans ?_)
  ·simp only [t1,t2,t3,aA,aI,aJ,aw]
   exact ⟨aS (by omega),aS (by omega),aS (by omega),aS (by omega),aS (by omega),aS (by omega),aS (by omega),aS (by omega),wE hm hr (by omega) (by omega) _ _ _,aS (by omega),aS (by omega),wE hm hr (by omega) (by omega) _ _ _,Lv hv (by omega) (by omega) (by omega) (by omega) _ _ _ _ _,aS (by omega)⟩
  ·simp only [OT.jf,t1,t2,t3,e1,e2,e3]
   rfl
 ·exact OT.au (bq (by dsimp only;omega))
def rowAt (k:Nat):aF:=iV.getD (k%10) []
theorem axb (k:Nat):Qo (rowAt k)=true:=by
 have:k%10<10:=Nat.mod_lt _ (by decide)
 unfold rowAt
 generalize k%10=j at this
 have h:∀ j:Fin 10,Qo (iV.getD j.val [])=true:=by decide+kernel
 exact h ⟨j,this⟩
def A3 (m:ap) (v:ap):ap:=upto (λk v=>arP m (rowAt k) (arQ m (rowAt k) v)) v 12
theorem pi {f:Nat->List UInt64->List UInt64} (hf:∀ k v,(f k v).length=v.length) (v:ap):∀ n,(upto f v n).length=v.length
 |0=>rfl
 |n+1=>by simp only [upto,hf,pi hf v n]
def LK (s:eu):Bool:=decide (s.1.2.2.2.2.2.1=0/\s.2.2.2.1.length=16/\s.2.2.2.2.1.length=16/\s.2.2.2.2.2.1=iV)
def wv (s:eu):rf:=(((),(),(),()),s.2.1,s.2.2.1,A3 s.2.2.2.2.1 s.2.2.2.1,())
theorem azO:bh (Hi oY rc oX wu) LK (aiw wv):=by
 rintro ⟨⟨⟨⟩,⟨⟩,⟨⟩,⟨⟩,⟨⟩,i,⟨⟩⟩,⟨c0,c1,v,m,c4,⟨⟩⟩⟩ h
 have h':=bm h
 dsimp only at h'
 obtain ⟨rfl,hv,hm,rfl⟩:=h'
 have:=(bf (T:=Hi oY rc oX wu) (λk v=>((((),(),(),(),(),(k:Int),()),c0,c1,v,m,iV,()):eu)) (λk v=>arP m (rowAt k) (arQ m (rowAt k) v))
  (λv=>(⟨(.exit 2,wC),(((),(),(),()),c0,c1,v,())⟩:aZ)) 12 v (λ_ v=>v.length=16) hv (λk v hk hv=>⟨?_,by rw [FH,tA];exact hv⟩) (λv hv=> ?_)).1
 ·obtain ⟨n,hn⟩:=this
  exact ⟨n,_,hn,rfl⟩
 ·have t1:Int.tmod (k:Int) 10=((k%10:Nat):Int):=by rw [Int.tmod_eq_emod_of_nonneg (by omega)];omega
  have e1:((k%10:Nat):Int).toNat=k%10:=by omega
  have hr:Qo (iV.getD (k%10) [])=true:=axb k
  refine (OT.ak (ag (by dsimp only;omega))).trans ((ae ?_).trans ?_)
  ·simp only [t1,e1,aA,aI,aJ,aw]
   refine ⟨ba (by omega),ag (show k%10+0<10 by omega),?_,?_,?_⟩
   ·simp only [oY,aw,decide_eq_true_eq]
    exact ⟨⟨trivial,hv,hm⟩,hr⟩
   ·simp only [oX,rc,aw,decide_eq_true_eq]
    exact ⟨⟨trivial,by rw [tA];exact hv,hm⟩,hr⟩
   ·exact aS (by simp only [wu,rc];omega)
  ·have hrow:iV.getD (k%10) []=rowAt k:=rfl
   simp only [OT.jf,t1,e1,Nat.add_zero,wu,rc,hrow]
   rfl
 ·exact OT.au (bq (by dsimp only;omega))
def agM (h v:ap):ap:=upto (λk h=>h.set k (h.getD k 0^^^(v.getD k 0^^^v.getD (k+8) 0))) h 8
def LJ (s:eR):Bool:=decide (s.1.2.2.2.1=0/\s.2.1.length=8/\s.2.2.2.1.length=16)
def wq (s:eR):re:=(((),(),()),agM s.2.1 s.2.2.2.1,s.2.2.1,())
theorem azL:bh Hf LJ (ait wq):=by
 rintro ⟨⟨⟨⟩,⟨⟩,⟨⟩,i,⟨⟩⟩,⟨h,c1,v,⟨⟩⟩⟩ hh
 have h':=bm hh
 dsimp only at h'
 obtain ⟨rfl,hl,hv⟩:=h'
 have:=(bf (T:=Hf) (λk h=>((((),(),(),(k:Int),()),h,c1,v,()):eR)) (λk h=>h.set k (h.getD k 0^^^(v.getD k 0^^^v.getD (k+8) 0)))
  (λh=>(⟨(.exit 8,wz),(((),(),()),h,c1,())⟩:aZ)) 8 h (λ_ h=>h.length=8) hl (λk h hk hl=>⟨?_,by rw [cu];exact hl⟩) (λh hl=> ?_)).1
 ·obtain ⟨n,hn⟩:=this
  exact ⟨n,_,hn,rfl⟩
 ·have e1:((k:Int)+8).toNat=k+8:=by omega
  refine (OT.ak (ag (by dsimp only;omega))).trans ((ae ?_).trans ?_)
  ·simp only [e1,hl,hv,aA,aI,aJ,aw]
   exact ⟨ba (by omega),ag (by omega),ba (by omega),ag (by omega),aS (by omega),ba (by omega),ag (by omega),ba (by omega),ag (by omega),aS (by omega)⟩
  ·simp only [OT.jf,e1,Nat.add_zero]
   rfl
 ·exact OT.au (bq (by dsimp only;omega))
def Rf (h:ap) (count:UInt64) (last:Bool):ap:=
 let v:=(h++bIV).set 12 ((h++bIV).getD 12 0^^^count)
 cond last (v.set 14 (~~~v.getD 14 0)) v
def Ey (h:ap) (b:aF) (count:UInt64) (last:Bool):ap:=agM h (A3 (xA b) (Rf h count last))
theorem Mq (b:aF):(xA b).length=16:=by
 unfold xA;rw [pi (λk v=>cu)];rfl
theorem Ik (m v:ap):(A3 m v).length=v.length:=pi (λk v=>by rw [FH,tA]) v 12
theorem Bu (h v:ap):(agM h v).length=h.length:=pi (λk v=>cu) h 8
theorem FY {b:List UInt8} {c0 c2 c3:List UInt64} (hb:b.length=128):LL (((),(),(),(),(),0,()),c0,b,c2,c3,[0,0,0,0,0,0,0,0,0,0,0,0,0,0,0,0],())=true:=ag ⟨rfl,hb,rfl⟩
theorem FX {c0 c1 v m:List UInt64} (hv:v.length=16) (hm:m.length=16):LK (((),(),(),(),(),0,()),c0,c1,v,m,iV,())=true:=ag ⟨rfl,hv,hm,rfl⟩
theorem FW {c0 c1 v:List UInt64} (h0:c0.length=8) (hv:v.length=16):LJ (((),(),(),0,()),c0,c1,v,())=true:=ag ⟨rfl,h0,hv⟩
def LI (x:YG):Bool:=decide (x.1.1.length=8/\x.1.2.1.length=128)
def aup (x:YG):OT zZ.Y:=.ok ⟨He,((Ey x.1.1 x.1.2.1 x.1.2.2.1 x.1.2.2.2.1,()),())⟩
theorem azK:aa aj 183 (zZ.az LI aup):=anM LL ww oY rc oX wu LK wv LJ wq azP azN azM azO azL _ _ λx oy hp ho=>by
 rw [<-ho]
 obtain ⟨⟨h,b,count,last,⟨⟩⟩,⟨⟩⟩:=x
 simp only [LI,decide_eq_true_eq] at hp
 obtain ⟨hh,hb⟩:=hp
 have t1:tab h 8 0=h:=AQ hh
 have t2:tab b 128 0=b:=AQ hb
 have t3:tab iV 10 []=iV:=AQ rfl
 have v1: []++(List.take 8 h++List.drop (0+min h.length 8) [(0:UInt64),0,0,0,0,0,0,0,0,0,0,0,0,0,0,0])=h++List.replicate 8 0:=by
  rw [hh,List.nil_append,List.take_of_length_le (by omega)];rfl
 have v2:List.take 8 (h++List.replicate 8 (0:UInt64))++(bIV++List.drop 16 (h++List.replicate 8 (0:UInt64)))=h++bIV:=by
  rw [List.take_append_of_le_length (by omega),List.take_of_length_le (by omega),List.drop_eq_nil_of_le (by simp;omega),List.append_nil]
 have hv:∀ c l,(Rf h c l).length=16:=λc l=>by
  unfold Rf
  cases l<;>simp [hh]<;>rfl
 have hm:(xA b).length=16:=Mq b
 have hr:∀ c l,(A3 (xA b) (Rf h c l)).length=16:=λc l=>by rw [Ik];exact hv c l
 have hM:∀ c l,(Ey h b c l).length=8:=λc l=>by unfold Ey;rw [Bu];exact hh
 have e8: [(7640891576956012808:UInt64),13503953896175478587,4354685564936845355,11912009170470909681,5840696475078001361,11170449401992604703,2270897969802886507,6620516959819538809]=bIV:=rfl
 have key:∀ M:List UInt64,M.length=8->tab (lay [(0:UInt64),0,0,0,0,0,0,0] M 8 0) 8 0=M:=λM hM=>by rw [VQ (n:=8) rfl hM,AQ hM]
 have l1:List.set (h++bIV) 12 ((h++bIV).getD 12 0^^^count)=Rf h count false:=rfl
 have l2:List.set (Rf h count false) 14 (~~~(Rf h count false).getD 14 0)=Rf h count true:=rfl
 have l3:∀ c l,agM h (A3 (xA b) (Rf h c l))=Ey h b c l:=λ_ _=>rfl
 cases last
 ·refine (OT.au rfl).trans ((ae ?_).trans ?_)
  ·simp only [t1,t2,t3,v1,aA,aI,aJ,aw]
   rw [e8]
   simp only [v2,ww,wv,wq,l1,l3,oA,hM]
   exact ⟨FY hb,FX (hv _ _) hm,FW hh (hr _ _),rfl,rfl,rfl⟩
  ·simp only [t1,t2,t3,v1]
   rw [e8]
   simp only [v2,ww,wv,wq,l1,l3]
   rw [key _ (hM _ _)]
   rfl
 ·refine (OT.ak rfl).trans ((ae ?_).trans ?_)
  ·simp only [t1,t2,t3,v1,aA,aI,aJ,aw]
   rw [e8]
   simp only [v2,ww,wv,wq,l1,l2,l3,oA,hM]
   exact ⟨FY hb,FX (hv _ _) hm,FW hh (hr _ _),rfl,rfl,rfl⟩
  ·simp only [t1,t2,t3,v1]
   rw [e8]
   simp only [v2,ww,wv,wq,l1,l2,l3]
   rw [key _ (hM _ _)]
   rfl
def EO:bt:=(zZ.az LI aup)
theorem aem:aa aj 183 EO:=azK
theorem ael:ax EO:=av
def aeC:Env:=aq 183 EO aHd
theorem Mn:bV aj te aeC:=aU follows As aem ael
def jJ:af:=⟨[jM],[],true,0,false⟩
abbrev aen:Type:=dl×Unit
def uv:aL:=⟨[.own 0],An,false⟩
def O3:SV->Option aL:=λ_=>some uv
def S6 (a0:aF):OT jJ.Y:=
 (gd [decide (((0:Nat)+List.length a0)*(1:Nat)<=(140737488355328:Nat))] (.ok ⟨uv,(((),()),[]++a0,())⟩))
def aur:OT jJ.Y:=.ok ⟨uv,(((),()),[],())⟩
theorem azV (x:aen) (Q:jJ.Y->Prop):wpf te aeC fV 1000 Tryz.f55 (jJ.inp.inj x).tm (jJ.inp.inj x).hp (fnK jJ O3 Q) (λ_ _=>False)=
 Bool.rec (motive:=λ_=>Prop) ((S6 x.1.1).wpR Q) (aur.wpR Q/\(S6 x.1.1).wpR Q) (List.isEmpty x.1.1):=by kernel_rfl
def eJ (x:aen):Bool:=decide (x.1.1.length<=140737488355328)
def aiy (x:aen):OT jJ.Y:=.ok ⟨uv,(((),()),x.1.1,())⟩
theorem auq:aa aj 55 (jJ.az eJ aiy):=by
 refine ayV Mr Mn.ok Mn.any (f:=55) (fn:=Tryz.f55) (c:=mP Tryz.f55) (by kernel_rfl) (by kernel_rfl) (by kernel_rfl) (S:=jJ) (k:=0) (by kernel_rfl) (Λ:=fV) (λR hR=>Bz) (n:=1000) λx oy hp hr=>⟨fnK jJ O3 (λz=>z=oy),λ_ _=>False,?_,λv hp hq=> ?_,λ_ _ hq=>hq.elim⟩
 ·refine (azV x _).mpr ?_
  cases hr
  have hp':x.1.1.length<=140737488355328:=bm hp
  have h1:(S6 x.1.1).wpR (λz=>z=⟨uv,(((),()),x.1.1,())⟩):=by
   rw [OT.E9]
   refine OT.iZ (ae ?_) rfl
   simp only [aA,aI,aJ]
   exact ag (by omega)
  cases hb:List.isEmpty x.1.1
  ·exact h1
  ·refine ⟨?_,h1⟩
   rw [List.isEmpty_iff.1 hb]
   rfl
 ·unfold fnK at hq
  split at hq
  ·rename_i o ho
   split at hq
   ·rename_i y hy
    subst hq
    exact ⟨by cases ho;rfl,hy⟩
   ·exact hq.elim
  ·exact hq.elim
def Aa:bt:=(jJ.az eJ aiy)
theorem YI:aa aj 55 Aa:=auq
theorem YH:ax Aa:=av
def ajS:Env:=aq 55 Aa aeC
theorem PG:bV aj te ajS:=aU follows Mn YI YH
def Lr:af:=⟨[YU,aC],[],true,0,false⟩
abbrev at6:Type:=(aF×eU)×Unit
def Lq:aL:=⟨[.rT,aC],[],false⟩
def aec:aL:=⟨F4,[YY,nX],false⟩
def OY (a0:aF) (a1:Int):OT Lr.Y:=
 let z0:aF:=List.take 16 a0++List.drop (List.length a0) [(0:UInt8),(0:UInt8),(0:UInt8),(0:UInt8),(0:UInt8),(0:UInt8),(0:UInt8),(0:UInt8),(0:UInt8),(0:UInt8),(0:UInt8),(0:UInt8),(0:UInt8),(0:UInt8),(0:UInt8),(0:UInt8)]
 let z1:Bool:=decide (16<=List.length z0)&&true
 let z2:aF:=List.take 8 (List.drop 0 z0)
 let z3:aF:=List.take 8 (List.drop 8 z0)
 (.br (decide ((16:Int)<(↑(List.length a0):Int)))
 (.ok ⟨Lq,(((),(30:Int),()),())⟩)
 (.br (decide (a1<(1:Int)))
  (.ok ⟨Lq,(((),(30:Int),()),())⟩)
  (.br (decide ((64:Int)<a1))
   (.ok ⟨Lq,(((),(30:Int),()),())⟩)
   (gd [z1,mS ((z2,()),()),z1,mS ((z3,()),())] (.ok ⟨aec,(((),(0:Int),()),(a1,(7640891576956012808:UInt64)^^^(16842752:UInt64)+i2u a1,(13503953896175478587:UInt64),(4354685564936845355:UInt64),(11912009170470909681:UInt64),(5840696475078001361:UInt64),(11170449401992604703:UInt64),(2270897969802886507:UInt64)^^^CU z2 (List.length z2),(6620516959819538809:UInt64)^^^CU z3 (List.length z3),(),(0:UInt64),()),[],())⟩)))))
theorem at5 (pre:at6->Bool) (F:at6->OT Lr.Y) (hF:∀ (x:at6) oy,pre x=true->(F x).run=some oy->(OY x.1.1 x.1.2.1).run=some oy):aa aj 108 (Lr.az pre F):=
 di PG 108 Tryz.f108 Lr [Lq,aec] bD (λx=>OY x.1.1 x.1.2.1) hF
def abk (p:aF):aF:=p.take 16++(List.replicate 16 (0:UInt8)).drop p.length
def oZ (p:aF) (n:Int):Bool:=decide (16<(p.length:Int))||decide (n<1)||decide (64<n)
theorem Vq {p:List UInt8} (h:p.length<=16):(abk p).length=16:=by
 simp only [abk,bL,bM,ck,fM]
 omega
abbrev aHe:Type:=F2
def am8 (n:Int) (h:ap) (c:UInt64):aHe:=(n,h.getD 0 0,h.getD 1 0,h.getD 2 0,h.getD 3 0,h.getD 4 0,h.getD 5 0,h.getD 6 0,h.getD 7 0,(),c,())
def avP (p:aF) (n:Int):ap:= [0x6a09e667f3bcc908^^^(16842752+i2u n),0xbb67ae8584caa73b,0x3c6ef372fe94f82b,0xa54ff53a5f1d36f1,0x510e527fade682d1,0x9b05688c2b3e6c1f,
 0x1f83d9abfb41bd6b^^^CU ((abk p).take 8) 8,0x5be0cd19137e2179^^^CU (((abk p).drop 8).take 8) 8]
def aip (_:at6):Bool:=true
def OZ (x:at6):OT Lr.Y:=.br (oZ x.1.1 x.1.2.1) (.ok ⟨Lq,(((),(30:Int),()),())⟩)
 (.ok ⟨aec,(((),(0:Int),()),am8 x.1.2.1 (avP x.1.1 x.1.2.1) 0,[],())⟩)
theorem aFf:aa aj 108 (Lr.az aip OZ):=at5 _ _ λx oy _ ho=>by
 rw [<-ho]
 obtain ⟨⟨p,n,⟨⟩⟩,⟨⟩⟩:=x
 clear ho
 by_cases h1:16<(p.length:Int)
 ·have e1:decide (16<(p.length:Int))=true:=ag h1
  have eb:oZ p n=true:=by simp only [oZ,e1,Bool.true_or]
  simp only [OZ,OY,e1,eb]
  rfl
 ·have e1:decide (16<(p.length:Int))=false:=bq h1
  by_cases h2:n<1
  ·have e2:decide (n<1)=true:=ag h2
   have eb:oZ p n=true:=by simp only [oZ,e1,e2,Bool.true_or,Bool.false_or]
   simp only [OZ,OY,e1,e2,eb]
   rfl
  ·have e2:decide (n<1)=false:=bq h2
   by_cases h3:64<n
   ·have e3:decide (64<n)=true:=ag h3
    have eb:oZ p n=true:=by simp only [oZ,e1,e2,e3,Bool.false_or]
    simp only [OZ,OY,e1,e2,e3,eb]
    rfl
   ·have e3:decide (64<n)=false:=bq h3
    have eb:oZ p n=false:=by simp only [oZ,e1,e2,e3,Bool.false_or]
    have hl:=Vq (p:=p) (by omega)
    have hp:p.take 16++List.drop p.length [(0:UInt8),0,0,0,0,0,0,0,0,0,0,0,0,0,0,0]=abk p:=rfl
    have l1:((abk p).take 8).length=8:=by simp only [bM,hl];omega
    have l2:(((abk p).drop 8).take 8).length=8:=by simp only [bM,ck,hl];omega
    simp only [OZ,OY,e1,e2,e3,eb,hp,List.drop_zero,l1,l2]
    refine (ae ?_).trans rfl
    simp only [mS,hl,l1,l2]
    decide
def Lp:bt:=(Lr.az aip OZ)
theorem anI:aa aj 108 Lp:=aFf
theorem anH:ax Lp:=av
def aCt:Env:=aq 108 Lp ajS
theorem To:bV aj te aCt:=aU follows PG anI anH
def aHw (w:Sh):CSh:=.cells [.val false .int,.val false .u64,.val false .u64,.val false .u64,.val false .u64,.val false .u64,.val false .u64,.val false .u64,.val false .u64,w,.val false .u64]
def qW:af:=⟨[eX,jM],[(0,aHw kl),nX],true,1,true⟩
def Yb:Shape:=⟨61,[Ak],[(0,aHw jM),(1,.gone)],2,true⟩
def qV:Shape:=Yb
abbrev Lf:Type:=(Unit×dl)×F2×dl
abbrev fB:Type:=ct×auS×ct
abbrev uo:Type:=ct×auS×ct
def atR (c0_0:Int) (c0_1:UInt64) (c0_2:UInt64) (c0_3:UInt64) (c0_4:UInt64) (c0_5:UInt64) (c0_6:UInt64) (c0_7:UInt64) (c0_8:UInt64) (c0_9:aF) (c0_10:UInt64):OT (Sum fB aZ):=
 let z0:Nat:=List.length c0_9
 let z1:Int:=(↑z0:Int)
 let z2:aF:=List.drop 0 (List.take 128 c0_9)
 let z3:Nat:=List.length z2
 let z4:ap:=Ey [c0_1,c0_2,c0_3,c0_4,c0_5,c0_6,c0_7,c0_8] (tab z2 128 (0:UInt8)) (c0_10+(128:UInt64)) false
 (.br (decide ((128:Int)<z1))
 (gd [cp (0:Int) (128:Int) z0,decide (128<=z3),decide (128<=z3),cp (128:Int) z1 z0] (.ok (.inl (((),()),(c0_0,List.getD z4 0 0,List.getD z4 1 0,List.getD z4 2 0,List.getD z4 3 0,List.getD z4 4 0,List.getD z4 5 0,List.getD z4 6 0,List.getD z4 7 0,List.drop 128 c0_9,c0_10+(128:UInt64),()),(),()))))
 (.ok (.inr ⟨(.exit 0,qV),(((),()),(c0_0,c0_1,c0_2,c0_3,c0_4,c0_5,c0_6,c0_7,c0_8,c0_9,c0_10,()),(),())⟩)))
def Cg (s:fB):OT (Sum fB aZ):=atR s.2.1.1 s.2.1.2.1 s.2.1.2.2.1 s.2.1.2.2.2.1 s.2.1.2.2.2.2.1 s.2.1.2.2.2.2.2.1 s.2.1.2.2.2.2.2.2.1 s.2.1.2.2.2.2.2.2.2.1 s.2.1.2.2.2.2.2.2.2.2.1 s.2.1.2.2.2.2.2.2.2.2.2.1 s.2.1.2.2.2.2.2.2.2.2.2.2.1
def Ye (g0_0:fB->uo) (s:fB):OT aZ:=(.ok ⟨(.exit 0,qV),g0_0 s⟩)
def Le:aL:=⟨[],[YY,nX],false⟩
section
variable (ok0:fB->Bool) (g0_0:fB->uo)
def aib (a1:aF) (c0_0:Int) (c0_1:UInt64) (c0_2:UInt64) (c0_3:UInt64) (c0_4:UInt64) (c0_5:UInt64) (c0_6:UInt64) (c0_7:UInt64) (c0_8:UInt64) (c0_10:UInt64) (c1:aF):OT qW.Y:=
 let z0:fB:=(((),()),(c0_0,c0_1,c0_2,c0_3,c0_4,c0_5,c0_6,c0_7,c0_8,c1++a1,c0_10,()),(),())
 let z1:=(g0_0 z0).snd.fst
 let z2:=z1.snd
 let z3:=z2.snd
 let z4:=z3.snd
 let z5:=z4.snd
 let z6:=z5.snd
 let z7:=z6.snd
 let z8:=z7.snd
 let z9:=z8.snd
 let z10:=z9.snd
 let z11:=z10.fst
 (gd [decide ((List.length c1+List.length a1)*1<=140737488355328),ok0 z0,eJ ((z11,()),())] (.ok ⟨Le,((),(z1.fst,z2.fst,z3.fst,z4.fst,z5.fst,z6.fst,z7.fst,z8.fst,z9.fst,(),z10.snd.fst,()),z11,())⟩))
theorem adX (h0:bh Cg ok0 (Ye g0_0)) (pre:Lf->Bool) (F:Lf->OT qW.Y) (hF:∀ (x:Lf) oy,pre x=true->(F x).run=some oy->(aib ok0 g0_0 x.1.2.1 x.2.1.1 x.2.1.2.1 x.2.1.2.2.1 x.2.1.2.2.2.1 x.2.1.2.2.2.2.1 x.2.1.2.2.2.2.2.1 x.2.1.2.2.2.2.2.2.1 x.2.1.2.2.2.2.2.2.2.1 x.2.1.2.2.2.2.2.2.2.2.1 x.2.1.2.2.2.2.2.2.2.2.2.2.1 x.2.2.1).run=some oy):aa aj 161 (qW.az pre F):=
 di To 161 Tryz.f161 qW [Le] (lg To 0 Yb [(0,qV)] none none Cg bD h0 bD) (λx=>aib ok0 g0_0 x.1.2.1 x.2.1.1 x.2.1.2.1 x.2.1.2.2.1 x.2.1.2.2.2.1 x.2.1.2.2.2.2.1 x.2.1.2.2.2.2.2.1 x.2.1.2.2.2.2.2.2.1 x.2.1.2.2.2.2.2.2.2.1 x.2.1.2.2.2.2.2.2.2.2.1 x.2.1.2.2.2.2.2.2.2.2.2.2.1 x.2.2.1) hF
end
def aBj (s:lz):lz:=(Ey s.1 (s.2.2.take 128) (s.2.1+128) false,s.2.1+128,s.2.2.drop 128)
def OD (s:lz):lz:=upto (λ_ s=>aBj s) s ((s.2.2.length-1)/128)
abbrev aHf:Type:=auS
def aER (n:Int) (s:lz):aHf:=(n,s.1.getD 0 0,s.1.getD 1 0,s.1.getD 2 0,s.1.getD 3 0,s.1.getD 4 0,s.1.getD 5 0,s.1.getD 6 0,s.1.getD 7 0,s.2.2,s.2.1,())
def aGg (x:aHf):lz:=([x.2.1,x.2.2.1,x.2.2.2.1,x.2.2.2.2.1,x.2.2.2.2.2.1,x.2.2.2.2.2.2.1,x.2.2.2.2.2.2.2.1,x.2.2.2.2.2.2.2.2.1],x.2.2.2.2.2.2.2.2.2.2.1,x.2.2.2.2.2.2.2.2.2.1)
theorem uf {h:List UInt64} {b:List UInt8} {c:UInt64} {l:Bool} (hh:h.length=8):(Ey h b c l).length=8:=by unfold Ey;rw [Bu];exact hh
def OU (_:fB):Bool:=true
def Yd (s:fB):uo:=(((),()),aER s.2.1.1 (OD (aGg s.2.1)),(),())
theorem atQ:bh Cg OU (Ye Yd):=by
 rintro ⟨⟨⟨⟩,⟨⟩⟩,⟨⟨n,h0,h1,h2,h3,h4,h5,h6,h7,w,c,⟨⟩⟩,⟨⟩,⟨⟩⟩⟩ _
 have:=(bf (T:=Cg) (λ_ s=>((((),()),aER n s,(),()):fB)) (λ_ s=>aBj s) (λs=>(⟨(.exit 0,qV),(((),()),aER n s,(),())⟩:aZ)) ((w.length-1)/128) ([h0,h1,h2,h3,h4,h5,h6,h7],c,w)
  (λk s=>s.1.length=8/\s.2.2.length+128*k=w.length) ⟨rfl,by simp⟩ (λk s hk hs=>⟨?_,?_⟩) (λs hs=> ?_)).1
 ·obtain ⟨m,hm⟩:=this
  exact ⟨m,_,hm,rfl⟩
 ·obtain ⟨h,c,v⟩:=s
  obtain ⟨a1,a2⟩:=hs
  dsimp only at a1 a2
  have hv:128<v.length:=by omega
  have t1: [h.getD 0 0,h.getD 1 0,h.getD 2 0,h.getD 3 0,h.getD 4 0,h.getD 5 0,h.getD 6 0,h.getD 7 0]=h:=(rfl:_=tab h 8 0).trans (AQ a1)
  have t2:tab (v.take 128) 128 0=v.take 128:=AQ (by simp;omega)
  have t3:(v.take 128).length=128:=by simp;omega
  refine (OT.ak (ag (by dsimp only [aER];omega))).trans ((ae ?_).trans ?_)
  ·simp only [aER,List.drop_zero,t3,aA,aI,aJ,aw]
   exact ⟨cI (by omega),rfl,rfl,cI (by omega)⟩
  ·simp only [OT.jf,aER,List.drop_zero,t1,t2]
   rfl
 ·obtain ⟨h,c,v⟩:=s
  obtain ⟨a1,a2⟩:=hs
  dsimp only at a1 a2
  refine ⟨uf a1,?_⟩
  simp only [aBj,ck]
  omega
 ·obtain ⟨h,c,v⟩:=s
  obtain ⟨a1,a2⟩:=hs
  dsimp only at a1 a2
  exact OT.au (bq (by dsimp only [aER];omega))
def sP (x:aHe) (w:aF):lz:=([x.2.1,x.2.2.1,x.2.2.2.1,x.2.2.2.2.1,x.2.2.2.2.2.1,x.2.2.2.2.2.2.1,x.2.2.2.2.2.2.2.1,x.2.2.2.2.2.2.2.2.1],x.2.2.2.2.2.2.2.2.2.2.1,w)
def oj (s:lz) (b:aF):lz:=OD (s.1,s.2.1,s.2.2++b)
theorem ahP (s:lz):∀ k,(upto (λ_ s=>aBj s) s k).2.2.length<=s.2.2.length
 |0=>Nat.le_refl _
 |k+1=>by
  have:=ahP s k
  show (List.drop 128 (upto (λ_ s=>aBj s) s k).2.2).length<=_
  rw [ck]
  omega
theorem NK {n:Int} {h:List UInt64} {c:UInt64} {w:List UInt8} (hh:h.length=8):sP (am8 n h c) w=(h,c,w):=by
 have: [h.getD 0 0,h.getD 1 0,h.getD 2 0,h.getD 3 0,h.getD 4 0,h.getD 5 0,h.getD 6 0,h.getD 7 0]=h:=(rfl:_=tab h 8 0).trans (AQ hh)
 simp only [sP,am8,this]
theorem aGI (s:lz) (hs:s.1.length=8):∀ k,(upto (λ_ s=>aBj s) s k).1.length=8
 |0=>hs
 |k+1=>uf (aGI s hs k)
theorem as4 (s:lz):∀ k,(upto (λ_ s=>aBj s) s k).2.2.length=s.2.2.length-128*k
 |0=>rfl
 |k+1=>by
  have:=as4 s k
  show (List.drop 128 (upto (λ_ s=>aBj s) s k).2.2).length=_
  rw [ck,this]
  omega
theorem azc (s:lz) (hs:s.1.length=8):(OD s).1.length=8:=aGI s hs _
theorem am5 (s:lz):(OD s).2.2.length<=128:=by
 unfold OD
 rw [as4]
 omega
def EF (x:Lf):Bool:=decide (x.2.2.1.length+x.1.2.1.length<=140737488355328)
def aic (x:Lf):OT qW.Y:=.ok ⟨Le,((),am8 x.2.1.1 (oj (sP x.2.1 x.2.2.1) x.1.2.1).1 (oj (sP x.2.1 x.2.2.1) x.1.2.1).2.1,(oj (sP x.2.1 x.2.2.1) x.1.2.1).2.2,())⟩
theorem atP:aa aj 161 (qW.az EF aic):=adX OU Yd atQ _ _ λx oy hp ho=>by
 rw [<-ho]
 clear ho
 obtain ⟨⟨⟨⟩,b,⟨⟩⟩,⟨⟨n,h0,h1,h2,h3,h4,h5,h6,h7,⟨⟩,c,⟨⟩⟩,w,⟨⟩⟩⟩:=x
 have hp':=bm hp
 dsimp only at hp'
 refine (ae ?_).trans rfl
 simp only [aA,aI,aJ,aw]
 refine ⟨ag (by omega),rfl,ag ?_⟩
 have:=ahP ([h0,h1,h2,h3,h4,h5,h6,h7],c,w++b) (((w++b).length-1)/128)
 show (OD ([h0,h1,h2,h3,h4,h5,h6,h7],c,w++b)).2.2.length<=_
 refine cV this ?_
 show (w++b).length<=_
 rw [bL]
 exact hp'
def zP:bt:=(qW.az EF aic)
theorem Yc:aa aj 161 zP:=atP
theorem Ya:ax zP:=av
def ajI:Env:=aq 161 zP aCt
theorem E5:bV aj te ajI:=aU follows To Yc Ya
def Li:af:=⟨o9,[(0,aHw kl),nX],false,2,true⟩
abbrev atX:Type:=ct×F2×dl
def aFa:Shape:=⟨51,[uJ,(6,.own 3),(33,aC),(34,aC)],[YY,nX,lB,uI],2,true⟩
abbrev jI:Type:=rF×F2×aF×ap×dl
def Cj:Shape:=⟨51,[(6,.own 2)],[YY,nX,Ah],2,true⟩
abbrev EI:Type:=ct×F2×aF×dl
def aFd (a33:Int) (a34:Int) (c0_0:Int) (c0_1:UInt64) (c0_2:UInt64) (c0_3:UInt64) (c0_4:UInt64) (c0_5:UInt64) (c0_6:UInt64) (c0_7:UInt64) (c0_8:UInt64) (c0_10:UInt64) (c1:aF) (c2:ap) (c3:aF):OT (Sum jI aZ):=
 let z0:Int:=Int.tdiv a34 (8:Int)
 let z1:Int:=(8:Int)*Int.tmod a34 (8:Int)
 let z2:Nat:=List.length c3
 let z3:Nat:=Int.toNat a34
 (.br (decide (a34<a33))
 (gd [true&&inR z0,inB z0 8,decide (Int.toNat z0+0<List.length c2),inR z1,decide ((0:Int)<=z1),inB a34 z2,decide (z3<z2),inR (a34+(1:Int))] (.ok (.inl (((),(),a33,a34+(1:Int),()),(c0_0,c0_1,c0_2,c0_3,c0_4,c0_5,c0_6,c0_7,c0_8,(),c0_10,()),c1,c2,List.set c3 z3 (UInt64.toUInt8 (bE (List.getD c2 (Int.toNat z0+0) (0:UInt64)) z1)),()))))
 (.ok (.inr ⟨(.exit 0,Cj),(((),()),(c0_0,c0_1,c0_2,c0_3,c0_4,c0_5,c0_6,c0_7,c0_8,(),c0_10,()),c1,c3,())⟩)))
def SQ (s:jI):OT (Sum jI aZ):=aFd s.1.2.2.1 s.1.2.2.2.1 s.2.1.1 s.2.1.2.1 s.2.1.2.2.1 s.2.1.2.2.2.1 s.2.1.2.2.2.2.1 s.2.1.2.2.2.2.2.1 s.2.1.2.2.2.2.2.2.1 s.2.1.2.2.2.2.2.2.2.1 s.2.1.2.2.2.2.2.2.2.2.1 s.2.1.2.2.2.2.2.2.2.2.2.2.1 s.2.2.1 s.2.2.2.1 s.2.2.2.2.1
def atW (g0_0:jI->EI) (s:jI):OT aZ:=(.ok ⟨(.exit 0,Cj),g0_0 s⟩)
def ad8:aL:=⟨[.own 2],[YY,nX,Ah],false⟩
section
variable (ok0:jI->Bool) (g0_0:jI->EI)
def aBu (c0_0:Int) (c0_1:UInt64) (c0_2:UInt64) (c0_3:UInt64) (c0_4:UInt64) (c0_5:UInt64) (c0_6:UInt64) (c0_7:UInt64) (c0_8:UInt64) (c0_10:UInt64) (c1:aF):OT Li.Y:=
 let z0:Nat:=List.length c1
 let z1:aF:=List.take 128 c1++List.drop z0 (List.replicate 128 (0:UInt8))
 let z2:aF:=List.replicate (Int.toNat c0_0) (0:UInt8)
 let z3:ap:=Ey [c0_1,c0_2,c0_3,c0_4,c0_5,c0_6,c0_7,c0_8] (tab z1 128 (0:UInt8)) (c0_10+i2u (↑(min z0 128):Int)) true
 let z4:jI:=(((),(),(↑(List.length z2):Int),(0:Int),()),(c0_0,c0_1,c0_2,c0_3,c0_4,c0_5,c0_6,c0_7,c0_8,(),c0_10,()),c1,[List.getD z3 0 0,List.getD z3 1 0,List.getD z3 2 0,List.getD z3 3 0,List.getD z3 4 0,List.getD z3 5 0,List.getD z3 6 0,List.getD z3 7 0],z2,())
 let z5:=(g0_0 z4).snd
 let z6:=z5.fst
 let z7:=z6.snd
 let z8:=z7.snd
 let z9:=z8.snd
 let z10:=z9.snd
 let z11:=z10.snd
 let z12:=z11.snd
 let z13:=z12.snd
 let z14:=z13.snd
 let z15:=z5.snd
 (gd [decide (128<=List.length z1),decide ((0:Int)<=c0_0)&&decide (c0_0<=c0_0)&&decide (c0_0*(1:Int)<=(140737488355328:Int))&&decide (c0_0<=(140737488355328:Int)),ok0 z4] (.ok ⟨ad8,(((),()),(z6.fst,z7.fst,z8.fst,z9.fst,z10.fst,z11.fst,z12.fst,z13.fst,z14.fst,(),z14.snd.snd.fst,()),z15.fst,z15.snd.fst,())⟩))
theorem atV (h0:bh SQ ok0 (atW g0_0)) (pre:atX->Bool) (F:atX->OT Li.Y) (hF:∀ (x:atX) oy,pre x=true->(F x).run=some oy->(aBu ok0 g0_0 x.2.1.1 x.2.1.2.1 x.2.1.2.2.1 x.2.1.2.2.2.1 x.2.1.2.2.2.2.1 x.2.1.2.2.2.2.2.1 x.2.1.2.2.2.2.2.2.1 x.2.1.2.2.2.2.2.2.2.1 x.2.1.2.2.2.2.2.2.2.2.1 x.2.1.2.2.2.2.2.2.2.2.2.2.1 x.2.2.1).run=some oy):aa aj 162 (Li.az pre F):=
 di E5 162 Tryz.f162 Li [ad8] (lg E5 0 aFa [(0,Cj)] none none SQ bD h0 bD) (λx=>aBu ok0 g0_0 x.2.1.1 x.2.1.2.1 x.2.1.2.2.1 x.2.1.2.2.2.1 x.2.1.2.2.2.2.1 x.2.1.2.2.2.2.2.1 x.2.1.2.2.2.2.2.2.1 x.2.1.2.2.2.2.2.2.2.1 x.2.1.2.2.2.2.2.2.2.2.1 x.2.1.2.2.2.2.2.2.2.2.2.2.1 x.2.2.1) hF
end
def afW (h:ap) (n:Nat):aF:=upto (λk o=>o.set k (UInt64.toUInt8 (bE (h.getD (k/8) 0) (8*((k%8:Nat):Int))))) (List.replicate n 0) n
def SP (s:jI):Bool:=decide (s.1.2.2.2.1=0/\s.2.2.2.1.length=8/\s.1.2.2.1<=64/\0<=s.1.2.2.1/\s.2.2.2.2.1=List.replicate s.1.2.2.1.toNat 0)
def ad9 (s:jI):EI:=(((),()),s.2.1,s.2.2.1,afW s.2.2.2.1 s.1.2.2.1.toNat,())
theorem aFc:bh SQ SP (atW ad9):=by
 rintro ⟨⟨⟨⟩,⟨⟩,n,i,⟨⟩⟩,⟨d,w,h,o,⟨⟩⟩⟩ hh
 have h':=bm hh
 dsimp only at h'
 obtain ⟨rfl,hl,hn,hn0,rfl⟩:=h'
 obtain ⟨k,rfl⟩:∃ k:Nat,n=(k:Int):=⟨n.toNat,by omega⟩
 have:=(bf (T:=SQ) (λi o=>((((),(),(k:Int),(i:Int),()),d,w,h,o,()):jI)) (λk o=>o.set k (UInt64.toUInt8 (bE (h.getD (k/8) 0) (8*((k%8:Nat):Int)))))
  (λo=>(⟨(.exit 0,Cj),(((),()),d,w,o,())⟩:aZ)) k (List.replicate k 0) (λ_ o=>o.length=k) (by simp) (λi o hi ho=>⟨?_,by rw [cu];exact ho⟩) (λo ho=> ?_)).1
 ·obtain ⟨m,hm⟩:=this
  exact ⟨m,_,hm,rfl⟩
 ·have t1:Int.tdiv (i:Int) 8=((i/8:Nat):Int):=by rw [Int.tdiv_eq_ediv_of_nonneg (by omega)];omega
  have t2:Int.tmod (i:Int) 8=((i%8:Nat):Int):=by rw [Int.tmod_eq_emod_of_nonneg (by omega)];omega
  refine (OT.ak (ag (by dsimp only;omega))).trans ((ae ?_).trans ?_)
  ·simp only [t1,t2,hl,ho,cD,aA,aI,aJ,aw]
   exact ⟨⟨trivial,aS (by omega)⟩,ba (by omega),ag (by omega),aS (by omega),ag (by omega),ba (by omega),ag (by omega),aS (by omega)⟩
  ·simp only [OT.jf,t1,t2,cD,Nat.add_zero]
   rfl
 ·exact OT.au (bq (by dsimp only;omega))
def Bg (w:aF):aF:=w.take 128++(List.replicate 128 (0:UInt8)).drop w.length
theorem Bf {w:List UInt8} (h:w.length<=128):(Bg w).length=128:=by
 simp only [Bg,bL,bM,ck,fM]
 omega
def aHk (n:Int) (s:lz):aF:=afW (Ey s.1 (Bg s.2.2) (s.2.1+i2u (s.2.2.length:Int)) true) n.toNat
theorem ad7 {n:Int} {d:aHe} {w:List UInt8} {h:List UInt64} (hh:h.length=8) (hn0:0<=n) (hn:n<=64):SP (((),(),n,0,()),d,w,h,List.replicate n.toNat 0,())=true:=ag ⟨rfl,hh,hn,hn0,rfl⟩
def SY (p:aF) (n:Int) (b:aF):aF:=aHk n (oj (avP p n,0,[]) b)
def SO (x:atX):Bool:=decide (0<=x.2.1.1/\x.2.1.1<=64/\x.2.2.1.length<=128)
def aBv (x:atX):OT Li.Y:=.ok ⟨ad8,(((),()),x.2.1,x.2.2.1,aHk x.2.1.1 (sP x.2.1 x.2.2.1),())⟩
theorem aFb:aa aj 162 (Li.az SO aBv):=atV SP ad9 aFc _ _ λx oy hp ho=>by
 rw [<-ho]
 clear ho
 obtain ⟨⟨⟨⟩,⟨⟩⟩,⟨⟨n,h0,h1,h2,h3,h4,h5,h6,h7,⟨⟩,c,⟨⟩⟩,w,⟨⟩⟩⟩:=x
 have hp':=bm hp
 dsimp only at hp'
 obtain ⟨hn0,hn,hw⟩:=hp'
 have t1:w.take 128++List.drop w.length (List.replicate 128 (0:UInt8))=Bg w:=rfl
 have t2:tab (Bg w) 128 0=Bg w:=AQ (Bf hw)
 have t3:min w.length 128=w.length:=by omega
 have hc:∀ c,(Ey [h0,h1,h2,h3,h4,h5,h6,h7] (Bg w) c true).length=8:=λc=>uf rfl
 have t4:∀ c,tab (Ey [h0,h1,h2,h3,h4,h5,h6,h7] (Bg w) c true) 8 0=Ey [h0,h1,h2,h3,h4,h5,h6,h7] (Bg w) c true:=λc=>AQ (hc c)
 have t5:((List.replicate n.toNat (0:UInt8)).length:Int)=n:=by simp;omega
 refine (ae ?_).trans ?_
 ·simp only [t1,t2,t3,t4,t5,Bf hw,aA,aI,aJ,aw]
  exact ⟨rfl,⟨⟨⟨ag hn0,ag (Int.le_refl _)⟩,ag (by omega)⟩,ag (by omega)⟩,ad7 (hc _) hn0 hn⟩
 ·simp only [t1,t2,t3,t4,t5,ad9]
  rfl
def Lh:bt:=(Li.az SO aBv)
theorem anD:aa aj 162 Lh:=aFb
theorem anC:ax Lh:=av
def aCr:Env:=aq 162 Lh ajI
theorem ajJ:bV aj te aCr:=aU follows E5 anD anC
def uq:af:=⟨[YU,aC,jM],[],true,0,false⟩
abbrev Yi:Type:=(aF×Int×dl)×Unit
def wm:aL:=⟨[.own 0,aC],An,false⟩
def atU (a0:aF) (a1:Int) (a2:aF):OT uq.Y:=
 let z0:Pa:=am8 a1 (avP a0 a1) (0:UInt64)
 let z1:=z0.fst
 let z2:=z0.snd
 let z3:=z2.snd
 let z4:=z3.snd
 let z5:=z4.snd
 let z6:=z5.snd
 let z7:=z6.snd
 let z8:=z7.snd
 let z9:=z8.snd
 let z10:Pa:=(z1,z2.fst,z3.fst,z4.fst,z5.fst,z6.fst,z7.fst,z8.fst,z9.fst,(),z9.snd.snd.fst,())
 let z11:lz:=oj (sP z10 []) a2
 let z12:=z11.snd
 let z13:Pa:=am8 z1 z11.fst z12.fst
 let z14:=z13.fst
 let z15:=z13.snd
 let z16:=z15.snd
 let z17:=z16.snd
 let z18:=z17.snd
 let z19:=z18.snd
 let z20:=z19.snd
 let z21:=z20.snd
 let z22:=z21.snd
 let z23:Pa:=(z14,z15.fst,z16.fst,z17.fst,z18.fst,z19.fst,z20.fst,z21.fst,z22.fst,(),z22.snd.snd.fst,())
 let z24:=z12.snd
 (.br (oZ a0 a1)
 (.ok ⟨wm,(((),(30:Int),()),[],())⟩)
 (gd [EF (((),a2,()),z10,[],()),SO (((),()),z23,z24,())] (.ok ⟨wm,(((),(0:Int),()),aHk z14 (sP z23 z24),())⟩)))
theorem anB (pre:Yi->Bool) (F:Yi->OT uq.Y) (hF:∀ (x:Yi) oy,pre x=true->(F x).run=some oy->(atU x.1.1 x.1.2.1 x.1.2.2.1).run=some oy):aa aj 132 (uq.az pre F):=
 di ajJ 132 Tryz.f132 uq [wm] bD (λx=>atU x.1.1 x.1.2.1 x.1.2.2.1) hF
def Ci (x:Yi):Bool:=decide (x.1.2.2.1.length<=140737488355328)
def SN (x:Yi):OT uq.Y:=.br (oZ x.1.1 x.1.2.1) (.ok ⟨wm,(((),(30:Int),()),[],())⟩) (.ok ⟨wm,(((),(0:Int),()),SY x.1.1 x.1.2.1 x.1.2.2.1,())⟩)
theorem azA:aa aj 132 (uq.az Ci SN):=anB _ _ λx oy hp ho=>by
 rw [<-ho]
 clear ho
 obtain ⟨⟨p,n,b,⟨⟩⟩,⟨⟩⟩:=x
 have hp':=bm hp
 dsimp only at hp'
 cases hk:oZ p n
 ·refine (OT.au hk).trans ?_
  have e1:sP (am8 n (avP p n) 0) []=(avP p n,0,[]):=NK rfl
  have e2:∀ c w,sP (am8 n (oj (avP p n,0,[]) b).1 c) w=((oj (avP p n,0,[]) b).1,c,w):=λc w=>NK (azc _ rfl)
  have hn:0<=n/\n<=64:=by
   simp only [oZ,Bool.or_eq_false_iff,decide_eq_false_iff_not] at hk
   omega
  refine (ae ?_).trans ?_
  ·simp only [aA,aI,aJ,aw]
   refine ⟨ag (by simp only [List.length_nil];omega),ag ⟨hn.1,hn.2,?_⟩⟩
   exact am5 _
  ·have key:aHk n (sP (am8 n (oj (sP (am8 n (avP p n) 0) []) b).1 (oj (sP (am8 n (avP p n) 0) []) b).2.1) (oj (sP (am8 n (avP p n) 0) []) b).2.2)=SY p n b:=by
    rw [e1,e2]
    rfl
   simp only [SN,hk]
   exact congrArg (λl=>some (⟨wm,(((),(0:Int),()),l,())⟩:uq.Y)) key
 ·refine (OT.ak hk).trans ?_
  simp only [SN,hk]
  rfl
def EH:bt:=(uq.az Ci SN)
theorem ad6:aa aj 132 EH:=azA
theorem ad5:ax EH:=av
def avL:Env:=aq 132 EH aCr
theorem avK:bV aj te avL:=aU follows ajJ ad6 ad5
def Sx.ab.nat (e:ab):Nat:=e.w0.toNat+18446744073709551616*(e.w1.toNat+18446744073709551616*(e.w2.toNat+18446744073709551616*e.w3.toNat))
def ofN (n:Nat):ab:=⟨UInt64.ofNat n,UInt64.ofNat (n/18446744073709551616),UInt64.ofNat (n/18446744073709551616/18446744073709551616),UInt64.ofNat (n/18446744073709551616/18446744073709551616/18446744073709551616)⟩
def Ae (x y c:UInt64):UInt64:=UInt64.ofNat ((x.toNat+y.toNat+c.toNat)%18446744073709551616)
def Gn (x y c:UInt64):UInt64:=UInt64.ofNat ((x.toNat+y.toNat+c.toNat)/18446744073709551616)
def rN (x y c:UInt64):UInt64:=UInt64.ofNat ((x.toNat+18446744073709551616-y.toNat-c.toNat)%18446744073709551616)
def aaw (x y c:UInt64):UInt64:=UInt64.ofNat (if x.toNat<y.toNat+c.toNat then 1 else 0)
def avQ (x y:UInt64):UInt64:=UInt64.ofNat (x.toNat*y.toNat/18446744073709551616)
theorem iB (x:UInt64) (k:Nat) (hk:k<64):(bE x (k:Int)).toNat=x.toNat/2^k:=by
 unfold bE
 rw [if_pos (by omega),UInt64.toNat_shiftRight,dA,cD,Nat.shiftRight_eq_div_pow]
 congr 2
 omega
theorem su (x:UInt64) (k:Nat) (hk:k<64):(cE x (k:Int)).toNat=x.toNat*2^k%2^64:=by
 unfold cE
 rw [if_pos (by omega),UInt64.toNat_shiftLeft,dA,cD,Nat.shiftLeft_eq]
 congr 3
 omega
theorem mj (x:UInt64):(x&&&4294967295).toNat=x.toNat%4294967296:=by
 rw [UInt64.toNat_and]
 exact Nat.and_two_pow_sub_one_eq_mod x.toNat 32
theorem aGl (a b:UInt64):bE a 32*bE b 32+bE (bE a 32*(b&&&4294967295)+bE ((a&&&4294967295)*(b&&&4294967295)) 32) 32+
 bE (((bE a 32*(b&&&4294967295)+bE ((a&&&4294967295)*(b&&&4294967295)) 32)&&&4294967295)+(a&&&4294967295)*bE b 32) 32=avQ a b:=by
 have ha:=a.toNat_lt
 have hb:=b.toNat_lt
 obtain ⟨h1,h2,h3,h4⟩:=Lib.mul64_hi a.toNat b.toNat ha hb
 have s32:∀ x:UInt64,(bE x 32).toNat=x.toNat/4294967296:=λx=>iB x 32 (by omega)
 have hx:=Lib.half_mul_le (a:=a.toNat/4294967296) (b:=b.toNat/4294967296) (by omega) (by omega)
 have hy:=Lib.half_mul_le (a:=a.toNat/4294967296) (b:=b.toNat%4294967296) (by omega) (by omega)
 have hz:=Lib.half_mul_le (a:=a.toNat%4294967296) (b:=b.toNat/4294967296) (by omega) (by omega)
 have e0:((a&&&4294967295)*(b&&&4294967295)).toNat=a.toNat%4294967296*(b.toNat%4294967296):=by
  rw [UInt64.toNat_mul,mj,mj,bn h1]
 have e1:(bE a 32*(b&&&4294967295)+bE ((a&&&4294967295)*(b&&&4294967295)) 32).toNat=a.toNat/4294967296*(b.toNat%4294967296)+a.toNat%4294967296*(b.toNat%4294967296)/4294967296:=by
  rw [UInt64.toNat_add,UInt64.toNat_mul,s32,s32,mj,e0,bn (a:=a.toNat/4294967296*(b.toNat%4294967296)) (by omega),bn h2]
 have e2:(((bE a 32*(b&&&4294967295)+bE ((a&&&4294967295)*(b&&&4294967295)) 32)&&&4294967295)+(a&&&4294967295)*bE b 32).toNat=
  (a.toNat/4294967296*(b.toNat%4294967296)+a.toNat%4294967296*(b.toNat%4294967296)/4294967296)%4294967296+a.toNat%4294967296*(b.toNat/4294967296):=by
  rw [UInt64.toNat_add,UInt64.toNat_mul,mj,mj,s32,e1,bn (a:=a.toNat%4294967296*(b.toNat/4294967296)) (by omega),bn h3]
 have hq:a.toNat*b.toNat/18446744073709551616<18446744073709551616:=by
  rw [Nat.div_lt_iff_lt_mul (by omega)]
  exact Nat.mul_lt_mul'' ha hb
 rw [<-rI,UInt64.toNat_add,UInt64.toNat_add,UInt64.toNat_mul,s32,s32,s32,s32,e1,e2]
 have e3:(avQ a b).toNat=a.toNat*b.toNat/18446744073709551616:=by
  unfold avQ
  rw [dA,bn hq]
 rw [e3,<-h4]
 rw [<-h4] at hq
 omega
def aFC (h l y:UInt64):UInt64:=UInt64.ofNat ((h.toNat*18446744073709551616+l.toNat)/y.toNat)
def adC (h l y:UInt64):UInt64:=UInt64.ofNat ((h.toNat*18446744073709551616+l.toNat)%y.toNat)
theorem aze {m A B N:Nat} (hm:0<m) (e:N=A+m*B):N/m=B+A/m/\N%m=A%m:=by
 subst e
 exact ⟨by rw [Nat.add_mul_div_left _ _ hm,Nat.add_comm],Nat.add_mul_mod_self_left ..⟩
theorem Sr {m N u t q r K L:Nat} (hm:0<m) (hL:0<L) (hu:N=u*K+t) (hq:u=q*(m*L)+r):
 N/m=q*(L*K)+((r*K+t)*L)/(m*L)/\N%m=((r*K+t)*L)%(m*L)/L:=by
 have e:N=(r*K+t)+m*(q*(L*K)):=by
  have h1:q*(m*L)*K=m*(q*(L*K)):=by
   rw [Nat.mul_assoc q,Nat.mul_assoc m,Nat.mul_left_comm m q]
  rw [hu,hq,Nat.add_mul,h1]
  omega
 obtain ⟨h1,h2⟩:=aze hm e
 rw [h1,h2,Nat.mul_div_mul_right _ _ hL,Nat.mul_mod_mul_right,Nat.mul_div_cancel _ hL]
 exact ⟨rfl,rfl⟩
theorem mX (x y c:UInt64):x.toNat+y.toNat+c.toNat=(Ae x y c).toNat+18446744073709551616*(Gn x y c).toNat:=by
 have hx:=x.toNat_lt
 have hy:=y.toNat_lt
 have hc:=c.toNat_lt
 unfold Ae Gn
 rw [dA,dA,bn (b:=2^64) (by omega),bn (b:=2^64) (by omega)]
 omega
theorem LP {x y c:UInt64} (hc:c.toNat<=1):(Gn x y c).toNat<=1:=by
 have hx:=x.toNat_lt
 have hy:=y.toNat_lt
 unfold Gn
 rw [dA,bn (by omega)]
 omega
theorem afX (x y c:UInt64):(aaw x y c).toNat=if x.toNat<y.toNat+c.toNat then 1 else 0:=by
 unfold aaw
 rw [dA]
 split<;>rfl
theorem H9 {x y c:UInt64}:(aaw x y c).toNat<=1:=by
 rw [afX]
 split<;>omega
theorem AU {x y c:UInt64} (hc:c.toNat<=1):x.toNat+18446744073709551616*(aaw x y c).toNat=(rN x y c).toNat+y.toNat+c.toNat:=by
 have hx:=x.toNat_lt
 have hy:=y.toNat_lt
 rw [afX]
 unfold rN
 rw [dA,bn (b:=2^64) (by omega)]
 split<;>omega
theorem jn (e:ab):e.nat<115792089237316195423570985008687907853269984665640564039457584007913129639936:=by
 have h0:=e.w0.toNat_lt
 have h1:=e.w1.toNat_lt
 have h2:=e.w2.toNat_lt
 have h3:=e.w3.toNat_lt
 unfold Sx.ab.nat
 omega
theorem CT {a b X Y:Nat} (ha:a<18446744073709551616) (hb:b<18446744073709551616) (h:a+18446744073709551616*X=b+18446744073709551616*Y):a=b/\X=Y:=by
 omega
theorem gI {e f:ab} (h:e.nat=f.nat):e=f:=by
 unfold Sx.ab.nat at h
 obtain ⟨h0,h⟩:=CT e.w0.toNat_lt f.w0.toNat_lt h
 obtain ⟨h1,h⟩:=CT e.w1.toNat_lt f.w1.toNat_lt h
 obtain ⟨h2,h3⟩:=CT e.w2.toNat_lt f.w2.toNat_lt h
 obtain ⟨a,b,c,d⟩:=e
 obtain ⟨a',b',c',d'⟩:=f
 simp only at h0 h1 h2 h3
 rw [UInt64.toNat_inj.1 h0,UInt64.toNat_inj.1 h1,UInt64.toNat_inj.1 h2,UInt64.toNat_inj.1 h3]
theorem div_eq {n a b:Nat} (ha:a<18446744073709551616) (h:n=a+18446744073709551616*b):n/18446744073709551616=b/\n%18446744073709551616=a:=by
 omega
theorem aql {n:Nat} {a b c d:UInt64} {k:Nat} (h:n=a.toNat+18446744073709551616*(b.toNat+18446744073709551616*(c.toNat+18446744073709551616*(d.toNat+18446744073709551616*k)))):ofN n=⟨a,b,c,d⟩:=by
 obtain ⟨h1,h0⟩:=div_eq a.toNat_lt h
 obtain ⟨h2,h3⟩:=div_eq b.toNat_lt h1
 obtain ⟨h4,h5⟩:=div_eq c.toNat_lt h2
 have h6:n/18446744073709551616/18446744073709551616/18446744073709551616%18446744073709551616=d.toNat:=by
  rw [h4]
  have:=d.toNat_lt
  omega
 unfold ofN
 have e:∀ (m:Nat) (x:UInt64),m%18446744073709551616=x.toNat->UInt64.ofNat m=x:=λm x hm=>by
  rw [<-rI,dA]
  exact hm
 rw [e _ a h0,e _ b h3,e _ c h5,e _ d h6]
theorem QP (n:Nat):(ofN n).nat=n%115792089237316195423570985008687907853269984665640564039457584007913129639936:=by
 unfold ofN ab.nat
 simp only [dA]
 rw [show (2:Nat)^64=18446744073709551616 from rfl]
 omega
theorem oc {n:Nat} (h:n<115792089237316195423570985008687907853269984665640564039457584007913129639936):(ofN n).nat=n:=by
 rw [QP]
 exact bn h
theorem Bi (e:ab):ofN e.nat=e:=gI (oc (jn e))
def Tp (a b:ab):ab×Bool:=(ofN (a.nat+b.nat),Nat.ble 115792089237316195423570985008687907853269984665640564039457584007913129639936 (a.nat+b.nat))
def ng (a b:ab):ab×Bool:=(ofN (a.nat+115792089237316195423570985008687907853269984665640564039457584007913129639936-b.nat),Nat.blt a.nat b.nat)
theorem Ta {x y c s k X Y R:Nat} (h1:x+y+c=s+18446744073709551616*k) (h2:X+Y+k=R):(x+18446744073709551616*X)+(y+18446744073709551616*Y)+c=s+18446744073709551616*R:=by
 omega
theorem Qc {x y c s k X Y R Q:Nat} (h1:x+18446744073709551616*k=s+y+c) (h2:X+18446744073709551616*Q=R+Y+k):(x+18446744073709551616*X)+18446744073709551616*(18446744073709551616*Q)=s+18446744073709551616*R+(y+18446744073709551616*Y)+c:=by
 omega
theorem ajV (a b:ab):let k0:=Gn a.w0 b.w0 0;let k1:=Gn a.w1 b.w1 k0;let k2:=Gn a.w2 b.w2 k1;let k3:=Gn a.w3 b.w3 k2
 (k0.toNat<=1/\k1.toNat<=1/\k2.toNat<=1)/\Tp a b=(⟨Ae a.w0 b.w0 0,Ae a.w1 b.w1 k0,Ae a.w2 b.w2 k1,Ae a.w3 b.w3 k2⟩,!(k3==0)):=by
 intro k0 k1 k2 k3
 have l0:k0.toNat<=1:=LP (by decide)
 have l1:k1.toNat<=1:=LP l0
 have l2:k2.toNat<=1:=LP l1
 have l3:k3.toNat<=1:=LP l2
 refine ⟨⟨l0,l1,l2⟩,?_⟩
 have h:=Ta (mX a.w0 b.w0 0) (Ta (mX a.w1 b.w1 k0) (Ta (mX a.w2 b.w2 k1) (mX a.w3 b.w3 k2)))
 rw [show (0:UInt64).toNat=0 from rfl,Nat.add_zero] at h
 unfold Tp
 have hn:a.nat+b.nat=(Ae a.w0 b.w0 0).toNat+18446744073709551616*((Ae a.w1 b.w1 k0).toNat+18446744073709551616*((Ae a.w2 b.w2 k1).toNat+18446744073709551616*((Ae a.w3 b.w3 k2).toNat+18446744073709551616*k3.toNat))):=h
 rw [aql hn]
 congr 1
 have hs:=jn ⟨Ae a.w0 b.w0 0,Ae a.w1 b.w1 k0,Ae a.w2 b.w2 k1,Ae a.w3 b.w3 k2⟩
 unfold Sx.ab.nat at hs
 simp only at hs
 have hk:k3.toNat=0\/k3.toNat=1:=by omega
 rcases hk with hk|hk
 ·have e:k3=0:=UInt64.toNat_inj.1 hk
  rw [hk] at hn
  rw [e]
  cases hb:Nat.ble 115792089237316195423570985008687907853269984665640564039457584007913129639936 (a.nat+b.nat)
  ·rfl
  ·have:=Nat.le_of_ble_eq_true hb
   omega
 ·have e:(k3==0)=false:=by
   have:¬k3=0:=λe=>by rw [e] at hk;cases hk
   simpa using this
  rw [hk] at hn
  rw [e]
  exact jW (by omega)
theorem aj6 (a b:ab):let k0:=aaw a.w0 b.w0 0;let k1:=aaw a.w1 b.w1 k0;let k2:=aaw a.w2 b.w2 k1;let k3:=aaw a.w3 b.w3 k2
 (k0.toNat<=1/\k1.toNat<=1/\k2.toNat<=1)/\ng a b=(⟨rN a.w0 b.w0 0,rN a.w1 b.w1 k0,rN a.w2 b.w2 k1,rN a.w3 b.w3 k2⟩,!(k3==0)):=by
 intro k0 k1 k2 k3
 have l0:k0.toNat<=1:=H9
 have l1:k1.toNat<=1:=H9
 have l2:k2.toNat<=1:=H9
 have l3:k3.toNat<=1:=H9
 refine ⟨⟨l0,l1,l2⟩,?_⟩
 have h:=Qc (AU (x:=a.w0) (y:=b.w0) (c:=0) (by decide)) (Qc (AU (x:=a.w1) (y:=b.w1) l0) (Qc (AU (x:=a.w2) (y:=b.w2) l1) (AU (x:=a.w3) (y:=b.w3) l2)))
 rw [show (0:UInt64).toNat=0 from rfl,Nat.add_zero] at h
 unfold ng
 have hs:=jn ⟨rN a.w0 b.w0 0,rN a.w1 b.w1 k0,rN a.w2 b.w2 k1,rN a.w3 b.w3 k2⟩
 have h':a.nat+18446744073709551616*(18446744073709551616*(18446744073709551616*(18446744073709551616*k3.toNat)))=ab.nat ⟨rN a.w0 b.w0 0,rN a.w1 b.w1 k0,rN a.w2 b.w2 k1,rN a.w3 b.w3 k2⟩+b.nat:=h
 have ha:=jn a
 have hb:=jn b
 have hS:=jn ⟨rN a.w0 b.w0 0,rN a.w1 b.w1 k0,rN a.w2 b.w2 k1,rN a.w3 b.w3 k2⟩
 have e1:ofN (a.nat+115792089237316195423570985008687907853269984665640564039457584007913129639936-b.nat)=⟨rN a.w0 b.w0 0,rN a.w1 b.w1 k0,rN a.w2 b.w2 k1,rN a.w3 b.w3 k2⟩:=by
  apply gI
  rw [QP]
  generalize ab.nat ⟨rN a.w0 b.w0 0,rN a.w1 b.w1 k0,rN a.w2 b.w2 k1,rN a.w3 b.w3 k2⟩=S at*
  omega
 rw [e1]
 congr 1
 generalize ab.nat ⟨rN a.w0 b.w0 0,rN a.w1 b.w1 k0,rN a.w2 b.w2 k1,rN a.w3 b.w3 k2⟩=S at*
 have hk:k3.toNat=0\/k3.toNat=1:=by omega
 rcases hk with hk|hk
 ·have e:k3=0:=UInt64.toNat_inj.1 hk
  rw [hk] at h'
  rw [e]
  cases hq:Nat.blt a.nat b.nat
  ·rfl
  ·have:=dK hq
   omega
 ·have e:(k3==0)=false:=by
   have:¬k3=0:=λe=>by rw [e] at hk;cases hk
   simpa using this
  rw [hk] at h'
  rw [e]
  exact jW (show a.nat+1<=b.nat by omega)
def lst (e:ab):List UInt64:= [e.w0,e.w1,e.w2,e.w3]
def elemOf (l:List UInt64):ab:=⟨l.getD 0 0,l.getD 1 0,l.getD 2 0,l.getD 3 0⟩
theorem cP {l:List UInt64} (h:l.length=4):lst (elemOf l)=l:=by
 match l,h with
 | [a,b,c,d],_=>rfl
theorem am4 (e:ab):elemOf (lst e)=e:=rfl
theorem NU (e:ab):(lst e).length=4:=rfl
theorem B7 {h l y:UInt64} (hy:0<y.toNat):(adC h l y).toNat=(h.toNat*18446744073709551616+l.toNat)%y.toNat:=by
 unfold adC
 rw [dA]
 exact bn (Nat.lt_trans (Nat.mod_lt _ hy) y.toNat_lt)
theorem Q4 (r x m:Nat):(r%m*18446744073709551616+x)%m=(r*18446744073709551616+x)%m:=by
 rw [Nat.add_mod,Nat.mul_mod,Nat.mod_mod,<-Nat.mul_mod,<-Nat.add_mod]
theorem aeK (a b:ab):(ng a b).2=Nat.blt a.nat b.nat:=rfl
theorem AA {a b:ab} (h:b.nat<=a.nat):(ng a b).1.nat=a.nat-b.nat:=by
 have ha:=jn a
 show (ofN _).nat=_
 rw [QP]
 omega
theorem aei {w N r:Nat} (hr:r<64):(w+18446744073709551616*N)/2^r%2=w/2^r%2:=by
 have e:18446744073709551616*N=2^r*(2*(2^(63-r)*N)):=by
  rw [<-Nat.mul_assoc,<-Nat.mul_assoc,Nat.mul_comm (2^r) 2,Nat.mul_assoc 2,<-Nat.pow_add,show r+(63-r)=63 by omega]
 rw [e,Nat.add_mul_div_left _ _ (Nat.two_pow_pos r),Nat.add_mul_mod_self_left]
theorem CS {w N:Nat} (hw:w<18446744073709551616) (r:Nat):(w+18446744073709551616*N)/2^(64+r)=N/2^r:=by
 rw [Nat.pow_add,<-Nat.div_div_eq_div_mul,show 2^64=18446744073709551616 from rfl,show (w+18446744073709551616*N)/18446744073709551616=N by omega]
theorem air {a:ab} {q r:Nat} (hq:q<4) (hr:r<64):((lst a).getD q 0).toNat/2^r%2=a.nat/2^(64*q+r)%2:=by
 have h0:=a.w0.toNat_lt
 have h1:=a.w1.toNat_lt
 have h2:=a.w2.toNat_lt
 unfold Sx.ab.nat
 have hq':q=0\/q=1\/q=2\/q=3:=by omega
 rcases hq' with rfl|rfl|rfl|rfl
 ·rw [Nat.mul_zero,Nat.zero_add,aei hr];rfl
 ·rw [show 64*1+r=64+r by omega,CS h0,aei hr];rfl
 ·rw [show 64*2+r=64+(64+r) by omega,CS h0,CS h1,aei hr];rfl
 ·rw [show 64*3+r=64+(64+(64+r)) by omega,CS h0,CS h1,CS h2];rfl
def avV (n i:Nat):Bool:=Nat.beq (n/2^i%2) 1
theorem auf (x:UInt64):(x&&&1==1)=Nat.beq (x.toNat%2) 1:=by
 have e:(x&&&1).toNat=x.toNat%2:=by
  rw [UInt64.toNat_and]
  exact Nat.and_two_pow_sub_one_eq_mod x.toNat 1
 rw [<-e]
 by_cases h:x&&&1=1
 ·rw [h];rfl
 ·have h':¬(x&&&1).toNat=1:=λh'=>h (UInt64.toNat_inj.1 h')
  have h2:Nat.beq (x&&&1).toNat 1=false:=by
   cases hb:Nat.beq (x&&&1).toNat 1
   ·rfl
   ·exact absurd (aY hb) h'
  rw [h2]
  simpa using h
theorem agx (x:ab):(x.w0&&&1==1)=(x.w0%2==1):=by
 have h:=auf x.w0
 rw [h]
 have h2:(x.w0%2).toNat=x.w0.toNat%2:=by rw [UInt64.toNat_mod];rfl
 rw [<-h2]
 by_cases h:x.w0%2=1
 ·rw [h];rfl
 ·have hn:¬(x.w0%2).toNat=1:=λe=>h (UInt64.toNat_inj.1 e)
  have:Nat.beq (x.w0%2).toNat 1=false:=by
   cases hb:Nat.beq (x.w0%2).toNat 1
   ·rfl
   ·exact absurd (aY hb) hn
  rw [this]
  symm
  simpa using h
abbrev akK:Ty:=.prod .elem (.prod .elem (.prod .elem .bool))
def S8:af:=⟨[aQ,aQ,aQ],[],true,0,false⟩
abbrev auy:Type:=aiI×Unit
def auw:aL:=⟨L7,[],false⟩
def EP (x:auy):Bool:=decide (x.1.2.2.1.toNat<=1)
def aiz (x:auy):OT S8.Y:=.ok ⟨auw,((Ae x.1.1 x.1.2.1 x.1.2.2.1,Gn x.1.1 x.1.2.1 x.1.2.2.1,()),())⟩
theorem anN (a b c:UInt64) (hc:c.toNat<=1) (w:World):(callFunc 159 #[eG a,eG b,eG c]).run aj w=.ok (.value (.tuple #[eG (Ae a b c),eG (Gn a b c)])) w:=by
 unfold eG
 rw [run_callFunc_extern Tryz.func159 (by kernel_rfl) (by kernel_rfl) (by kernel_rfl) (e:=add64Entry) (by kernel_rfl),run_add64 (a.toNat:Int) (b.toNat:Int) (c.toNat:Int) (by omega) (by omega) (by omega) (by omega)]
 have ha:=a.toNat_lt
 have hb:=b.toNat_lt
 have e1:(((Ae a b c).toNat:Nat):Int)=((a.toNat:Int)+b.toNat+c.toNat)%18446744073709551616:=by
  unfold Ae
  rw [dA,bn (by omega)]
  omega
 have e2:(((Gn a b c).toNat:Nat):Int)=((a.toNat:Int)+b.toNat+c.toNat)/18446744073709551616:=by
  unfold Gn
  rw [dA,bn (by omega)]
  omega
 rw [e1,e2]
 rfl
theorem auv:aa aj 159 (S8.az EP aiz):=by
 refine aA6 (k:=0) (by kernel_rfl) λx oy vs N w hp ho hr=> ?_
 obtain ⟨⟨a,b,c,⟨⟩⟩,⟨⟩⟩:=x
 cases ho
 have hc:c.toNat<=1:=bm hp
 have hr':SV.bw N [.u64 a,.u64 b,.u64 c] vs:=hr
 simp only [SV.bw,SV.rel] at hr'
 obtain ⟨_,_,rfl,rfl,_,_,rfl,rfl,_,_,rfl,rfl,rfl⟩:=hr'
 refine ⟨.tup [.u64 (Ae a b c),.u64 (Gn a b c)],_,anN a b c hc w,?_,⟨rfl,by kernel_rfl⟩⟩
 simp only [SV.rel]
 exact ⟨_,rfl,by simp only [SV.bw,SV.rel];exact ⟨_,_,rfl,rfl,_,_,rfl,rfl,rfl⟩⟩
def Ab:bt:=(S8.az EP aiz)
theorem YK:aa aj 159 Ab:=auv
theorem YJ:ax Ab:=av
def ajT:Env:=aq 159 Ab avL
theorem anR:bV aj te ajT:=aU follows avK YK YJ
def SR:af:=⟨[aQ,aQ,aQ],[],true,0,false⟩
abbrev at0:Type:=aiI×Unit
def atZ:aL:=⟨L7,[],false⟩
def EJ (x:at0):Bool:=decide (x.1.2.2.1.toNat<=1)
def aif (x:at0):OT SR.Y:=.ok ⟨atZ,((rN x.1.1 x.1.2.1 x.1.2.2.1,aaw x.1.1 x.1.2.1 x.1.2.2.1,()),())⟩
def aAz:Array Value->Sem Value:=λargs=>do
 let (x,y,b) <-Extern.MathBitsCarry.three "Sub64" args
 pure (Extern.MathBitsCarry.pair ((x+Extern.MathBitsCarry.m64-y-b)%Extern.MathBitsCarry.m64) (if x<y+b then 1 else 0))
theorem akQ {P:Program} (x y b:Nat) (hb:b<=1) (w:World):
 (aAz #[.int .u64 x,.int .u64 y,.int .u64 b]).run P w=
  .ok (.tuple #[.int .u64 (((x+18446744073709551616-y-b)%18446744073709551616:Nat):Int),.int .u64 ((if x<y+b then 1 else 0:Nat):Int)]) w:=by
 have:b=0\/b=1:=by omega
 rcases this with rfl|rfl<;>rfl
theorem anE (a b c:UInt64) (hc:c.toNat<=1) (w:World):(callFunc 153 #[eG a,eG b,eG c]).run aj w=.ok (.value (.tuple #[eG (rN a b c),eG (aaw a b c)])) w:=by
 unfold eG
 rw [run_callFunc_extern Tryz.func153 (by kernel_rfl) (by kernel_rfl) (by kernel_rfl) (e:=aAz) (by kernel_rfl),akQ a.toNat b.toNat c.toNat (by omega)]
 have ha:=a.toNat_lt
 have hb:=b.toNat_lt
 have e1:(rN a b c).toNat=(a.toNat+18446744073709551616-b.toNat-c.toNat)%18446744073709551616:=by
  unfold rN
  rw [dA,bn (by omega)]
 have e2:(aaw a b c).toNat=if a.toNat<b.toNat+c.toNat then 1 else 0:=by
  unfold aaw
  rw [dA,bn (by split<;>omega)]
 rw [e1,e2]
 rfl
theorem atY:aa aj 153 (SR.az EJ aif):=by
 refine aA6 (k:=0) (by kernel_rfl) λx oy vs N w hp ho hr=> ?_
 obtain ⟨⟨a,b,c,⟨⟩⟩,⟨⟩⟩:=x
 cases ho
 have hc:c.toNat<=1:=bm hp
 have hr':SV.bw N [.u64 a,.u64 b,.u64 c] vs:=hr
 simp only [SV.bw,SV.rel] at hr'
 obtain ⟨_,_,rfl,rfl,_,_,rfl,rfl,_,_,rfl,rfl,rfl⟩:=hr'
 refine ⟨.tup [.u64 (rN a b c),.u64 (aaw a b c)],_,anE a b c hc w,?_,⟨rfl,by kernel_rfl⟩⟩
 simp only [SV.rel]
 exact ⟨_,rfl,by simp only [SV.bw,SV.rel];exact ⟨_,_,rfl,rfl,_,_,rfl,rfl,rfl⟩⟩
def zS:bt:=(SR.az EJ aif)
theorem Yk:aa aj 153 zS:=atY
theorem Yj:ax zS:=av
def ajK:Env:=aq 153 zS ajT
theorem PB:bV aj te ajK:=aU follows anR Yk Yj
def q9:af:=⟨L7,[],true,0,false⟩
abbrev Lt:Type:=(UInt64×m4)×Unit
def Ls:aL:=⟨L7,[],false⟩
def SU (a0:UInt64) (a1:UInt64):OT q9.Y:=
 let z0:UInt64:=bE a0 (32:Int)
 let z1:UInt64:=bE a1 (32:Int)
 let z2:UInt64:=z0*(a1&&&(4294967295:UInt64))+bE ((a0&&&(4294967295:UInt64))*(a1&&&(4294967295:UInt64))) (32:Int)
 (.ok ⟨Ls,((z0*z1+bE z2 (32:Int)+bE ((z2&&&(4294967295:UInt64))+(a0&&&(4294967295:UInt64))*z1) (32:Int),a0*a1,()),())⟩)
theorem aed (pre:Lt->Bool) (F:Lt->OT q9.Y) (hF:∀ (x:Lt) oy,pre x=true->(F x).run=some oy->(SU x.1.1 x.1.2.1).run=some oy):aa aj 191 (q9.az pre F):=
 di PB 191 Tryz.f191 q9 [Ls] bD (λx=>SU x.1.1 x.1.2.1) hF
def O0 (_:Lt):Bool:=true
def SW (x:Lt):OT q9.Y:=.ok ⟨Ls,((avQ x.1.1 x.1.2.1,x.1.1*x.1.2.1,()),())⟩
theorem at7:aa aj 191 (q9.az O0 SW):=aed _ _ λx oy _ ho=>by
 rw [<-ho]
 simp only [SW,SU,aGl]
def zV:bt:=(q9.az O0 SW)
theorem Yr:aa aj 191 zV:=at7
theorem Yq:ax zV:=av
def ajO:Env:=aq 191 zV ajK
theorem PE:bV aj te ajO:=aU follows PB Yr Yq
def rb:af:=⟨[aQ],[],true,0,false⟩
abbrev Lz:Type:=m4×Unit
def fY:aL:=⟨jK,[],false⟩
def Hc (a0:UInt64):OT rb.Y:=
 let z0:UInt64:=bE a0 (32:Int)
 let z1:UInt64:=bE z0 (16:Int)
 let z2:Int:=(↑(UInt8.toNat (UInt64.toUInt8 (bE z1 (8:Int)))):Int)
 let z3:aF:=List.replicate 64 (8:UInt8)
 let z4:aF:=List.append (List.append [(0:UInt8),(1:UInt8),(2:UInt8),(2:UInt8),(3:UInt8),(3:UInt8),(3:UInt8),(3:UInt8),(4:UInt8),(4:UInt8),(4:UInt8),(4:UInt8),(4:UInt8),(4:UInt8),(4:UInt8),(4:UInt8),(5:UInt8),(5:UInt8),(5:UInt8),(5:UInt8),(5:UInt8),(5:UInt8),(5:UInt8),(5:UInt8),(5:UInt8),(5:UInt8),(5:UInt8),(5:UInt8),(5:UInt8),(5:UInt8),(5:UInt8),(5:UInt8),(6:UInt8),(6:UInt8),(6:UInt8),(6:UInt8),(6:UInt8),(6:UInt8),(6:UInt8),(6:UInt8),(6:UInt8),(6:UInt8),(6:UInt8),(6:UInt8),(6:UInt8),(6:UInt8),(6:UInt8),(6:UInt8),(6:UInt8),(6:UInt8),(6:UInt8),(6:UInt8),(6:UInt8),(6:UInt8),(6:UInt8),(6:UInt8),(6:UInt8),(6:UInt8),(6:UInt8),(6:UInt8),(6:UInt8),(6:UInt8),(6:UInt8),(6:UInt8)] (List.replicate 64 (7:UInt8))) (List.append z3 z3)
 let z5:Int:=(56:Int)+(↑(UInt8.toNat (List.getD z4 (Int.toNat z2) (0:UInt8))):Int)
 let z6:Int:=(↑(UInt8.toNat (UInt64.toUInt8 z1)):Int)
 let z7:Int:=(48:Int)+(↑(UInt8.toNat (List.getD z4 (Int.toNat z6) (0:UInt8))):Int)
 let z8:Int:=(↑(UInt8.toNat (UInt64.toUInt8 (bE z0 (8:Int)))):Int)
 let z9:Int:=(40:Int)+(↑(UInt8.toNat (List.getD z4 (Int.toNat z8) (0:UInt8))):Int)
 let z10:Int:=(↑(UInt8.toNat (UInt64.toUInt8 z0)):Int)
 let z11:Int:=(32:Int)+(↑(UInt8.toNat (List.getD z4 (Int.toNat z10) (0:UInt8))):Int)
 let z12:UInt64:=bE a0 (16:Int)
 let z13:Int:=(↑(UInt8.toNat (UInt64.toUInt8 (bE z12 (8:Int)))):Int)
 let z14:Int:=(24:Int)+(↑(UInt8.toNat (List.getD z4 (Int.toNat z13) (0:UInt8))):Int)
 let z15:Int:=(↑(UInt8.toNat (UInt64.toUInt8 z12)):Int)
 let z16:Int:=(16:Int)+(↑(UInt8.toNat (List.getD z4 (Int.toNat z15) (0:UInt8))):Int)
 let z17:Int:=(↑(UInt8.toNat (UInt64.toUInt8 (bE a0 (8:Int)))):Int)
 let z18:Int:=(8:Int)+(↑(UInt8.toNat (List.getD z4 (Int.toNat z17) (0:UInt8))):Int)
 let z19:Int:=(↑(UInt8.toNat (UInt64.toUInt8 a0)):Int)
 let z20:Int:=(0:Int)+(↑(UInt8.toNat (List.getD z4 (Int.toNat z19) (0:UInt8))):Int)
 (.br (decide ((4294967296:UInt64)<=a0))
 (.br (decide ((65536:UInt64)<=z0))
  (.br (decide ((256:UInt64)<=z1))
   (gd [inB z2 256,inR z5] (.ok ⟨fY,((z5,()),())⟩))
   (gd [inB z6 256,inR z7] (.ok ⟨fY,((z7,()),())⟩)))
  (.br (decide ((256:UInt64)<=z0))
   (gd [inB z8 256,inR z9] (.ok ⟨fY,((z9,()),())⟩))
   (gd [inB z10 256,inR z11] (.ok ⟨fY,((z11,()),())⟩))))
 (.br (decide ((65536:UInt64)<=a0))
  (.br (decide ((256:UInt64)<=z12))
   (gd [inB z13 256,inR z14] (.ok ⟨fY,((z14,()),())⟩))
   (gd [inB z15 256,inR z16] (.ok ⟨fY,((z16,()),())⟩)))
  (.br (decide ((256:UInt64)<=a0))
   (gd [inB z17 256,inR z18] (.ok ⟨fY,((z18,()),())⟩))
   (gd [inB z19 256,inR z20] (.ok ⟨fY,((z20,()),())⟩)))))
theorem aeh (pre:Lz->Bool) (F:Lz->OT rb.Y) (hF:∀ (x:Lz) oy,pre x=true->(F x).run=some oy->(Hc x.1.1).run=some oy):aa aj 190 (rb.az pre F):=
 di PE 190 Tryz.f190 rb [fY] bD (λx=>Hc x.1.1) hF
def jq (x:UInt64):Bool:=(x==16513537)||(x==16521217)
theorem ij {x:UInt64} (h:jq x=true):x=16513537\/x=16521217:=by
 simpa [jq] using h
def EM (x:Lz):Bool:=jq x.1.1
def aiq (_:Lz):OT rb.Y:=.ok ⟨fY,(((24:Int),()),())⟩
theorem Yw:(Hc 16513537).run=some ⟨fY,(((24:Int),()),())⟩/\(Hc 16521217).run=some ⟨fY,(((24:Int),()),())⟩:=⟨by kernel_rfl,by kernel_rfl⟩
theorem auc:aa aj 190 (rb.az EM aiq):=aeh _ _ λx oy hp ho=>by
 rw [<-ho]
 clear ho
 obtain ⟨⟨x,⟨⟩⟩,⟨⟩⟩:=x
 rcases ij hp with h|h
 ·have h:x=16513537:=h
  subst h
  exact Yw.1
 ·have h:x=16521217:=h
  subst h
  exact Yw.2
def zX:bt:=(rb.az EM aiq)
theorem Yv:aa aj 190 zX:=auc
theorem Yu:ax zX:=av
def ajQ:Env:=aq 190 zX ajO
theorem PF:bV aj te ajQ:=aU follows PE Yv Yu
def zW:af:=⟨[aQ],[],true,0,false⟩
abbrev Ys:Type:=m4×Unit
def SX:aL:=⟨jK,[],false⟩
def aua (a0:UInt64):OT zW.Y:=
 (gd [EM ((a0,()),())] (.ok ⟨SX,(((40:Int),()),())⟩))
theorem anL (pre:Ys->Bool) (F:Ys->OT zW.Y) (hF:∀ (x:Ys) oy,pre x=true->(F x).run=some oy->(aua x.1.1).run=some oy):aa aj 177 (zW.az pre F):=
 di PF 177 Tryz.f177 zW [SX] bD (λx=>aua x.1.1) hF
def Lx (x:Ys):Bool:=jq x.1.1
def aub (_:Ys):OT zW.Y:=.ok ⟨SX,(((40:Int),()),())⟩
theorem azB:aa aj 177 (zW.az Lx aub):=anL _ _ λx oy hp ho=>by
 rw [<-ho]
 clear ho
 obtain ⟨⟨x,⟨⟩⟩,⟨⟩⟩:=x
 have hp:jq x=true:=hp
 refine (ae ?_).trans rfl
 simp only [aA,aI,aJ,aw]
 first|exact hp|exact ⟨hp,rfl⟩
def EL:bt:=(zW.az Lx aub)
theorem aeg:aa aj 177 EL:=azB
theorem aef:ax EL:=av
def avM:Env:=aq 177 EL ajQ
theorem CL:bV aj te avM:=aU follows PF aeg aef
def nU:af:=⟨[aQ,aQ,aQ],[],true,0,false⟩
abbrev LF:Type:=aiI×Unit
def auh:Shape:=⟨135,[(2,aQ),(8,aQ),(9,aQ),(10,aQ),(11,aQ),(13,aQ),(14,aQ),(15,aQ),(16,aQ)],[],0,true⟩
abbrev fD:Type:=auQ×Unit
def mV:Shape:=⟨135,[(2,aQ),(8,aQ),(9,aQ),(10,aQ),(11,aQ),(13,aQ),(14,aQ),(15,aQ)],[],0,true⟩
abbrev uu:Type:=(UInt64×UInt64×aiQ)×Unit
def aum (a2:UInt64) (a8:UInt64) (a9:UInt64) (a10:UInt64) (a11:UInt64) (a13:UInt64) (a14:UInt64) (a15:UInt64) (a16:UInt64):OT (Sum fD aZ):=
 let z0:Bool:=decide ((4294967296:UInt64)<=a16+a9)
 (.br (decide ((4294967296:UInt64)<=a15))
 (.br (z0)
  (.ok (.inr ⟨(.exit 0,mV),((a2,a8,a9,a10,a11,a13,a14,a15-(1:UInt64),()),())⟩))
  (.ok (.inl ((a2,a8,a9,a10,a11,a13,a14,a15-(1:UInt64),a16+a9,()),()))))
 (.br (decide ((4294967296:UInt64)*a16+a13<a15*a10))
  (.br (z0)
   (.ok (.inr ⟨(.exit 0,mV),((a2,a8,a9,a10,a11,a13,a14,a15-(1:UInt64),()),())⟩))
   (.ok (.inl ((a2,a8,a9,a10,a11,a13,a14,a15-(1:UInt64),a16+a9,()),()))))
  (.ok (.inr ⟨(.exit 0,mV),((a2,a8,a9,a10,a11,a13,a14,a15,()),())⟩))))
def LD (s:fD):OT (Sum fD aZ):=aum s.1.1 s.1.2.1 s.1.2.2.1 s.1.2.2.2.1 s.1.2.2.2.2.1 s.1.2.2.2.2.2.1 s.1.2.2.2.2.2.2.1 s.1.2.2.2.2.2.2.2.1 s.1.2.2.2.2.2.2.2.2.1
def YF (g0_0:fD->uu) (s:fD):OT aZ:=(.ok ⟨(.exit 0,mV),g0_0 s⟩)
def aug:Shape:=⟨135,[(2,aQ),(8,aQ),(9,aQ),(10,aQ),(14,aQ),(15,aQ),(16,aQ),(17,aQ),(18,aQ)],[],0,true⟩
abbrev io:Type:=auQ×Unit
def mU:Shape:=⟨135,[(2,aQ),(8,aQ),(14,aQ),(15,aQ),(17,aQ),(18,aQ)],[],0,true⟩
abbrev ur:Type:=aiQ×Unit
def aul (a2:UInt64) (a8:UInt64) (a9:UInt64) (a10:UInt64) (a14:UInt64) (a15:UInt64) (a16:UInt64) (a17:UInt64) (a18:UInt64):OT (Sum io aZ):=
 let z0:Bool:=decide ((4294967296:UInt64)<=a16+a9)
 (.br (decide ((4294967296:UInt64)<=a18))
 (.br (z0)
  (.ok (.inr ⟨(.exit 2,mU),((a2,a8,a14,a15,a17,a18-(1:UInt64),()),())⟩))
  (.ok (.inl ((a2,a8,a9,a10,a14,a15,a16+a9,a17,a18-(1:UInt64),()),()))))
 (.br (decide ((4294967296:UInt64)*a16+a14<a18*a10))
  (.br (z0)
   (.ok (.inr ⟨(.exit 2,mU),((a2,a8,a14,a15,a17,a18-(1:UInt64),()),())⟩))
   (.ok (.inl ((a2,a8,a9,a10,a14,a15,a16+a9,a17,a18-(1:UInt64),()),()))))
  (.ok (.inr ⟨(.exit 2,mU),((a2,a8,a14,a15,a17,a18,()),())⟩))))
def LC (s:io):OT (Sum io aZ):=aul s.1.1 s.1.2.1 s.1.2.2.1 s.1.2.2.2.1 s.1.2.2.2.2.1 s.1.2.2.2.2.2.1 s.1.2.2.2.2.2.2.1 s.1.2.2.2.2.2.2.2.1 s.1.2.2.2.2.2.2.2.2.1
def YE (g2_2:io->ur) (s:io):OT aZ:=(.ok ⟨(.exit 2,mU),g2_2 s⟩)
def oV:aL:=⟨L7,[],false⟩
section
variable (ok0:fD->Bool) (g0_0:fD->uu) (ok2:io->Bool) (g2_2:io->ur)
def S2 (a0:UInt64) (a1:UInt64) (a2:UInt64):OT nU.Y:=
 let z0:Bool:= !a2==(0:UInt64)
 let z1:UInt64:=cE a2 (40:Int)
 let z2:UInt64:=bE z1 (32:Int)
 let z3:UInt64:=cE a0 (40:Int)|||bE a1 (24:Int)
 let z4:UInt64:=cE a1 (40:Int)
 let z5:UInt64:=z3/z2
 let z6:fD:=((z1,(40:UInt64),z2,z1&&&(4294967295:UInt64),z3,bE z4 (32:Int),z4&&&(4294967295:UInt64),z5,z3-z5*z2,()),())
 let z7:=(g0_0 z6).fst
 let z8:=z7.snd
 let z9:=z8.snd
 let z10:=z9.fst
 let z11:=z7.fst
 let z12:=z9.snd
 let z13:=z12.snd
 let z14:=z13.snd
 let z15:=z14.snd
 let z16:=z15.snd.fst
 let z17:UInt64:=z13.fst*(4294967296:UInt64)+z14.fst-z16*z11
 let z18:UInt64:=z17/z10
 let z19:fD:=((z11,z8.fst,z10,z12.fst,z15.fst,z16,z17-z18*z10,z17,z18,()),())
 let z20:=(g2_2 z19).fst
 let z21:=z20.snd
 let z22:=z21.snd
 let z23:=z22.snd
 let z24:=z23.snd
 let z25:=z24.snd.fst
 (.br (a2==(0:UInt64))
 .fail
 (.br (decide (a2<=a0))
  .fail
  (.br (a0==(0:UInt64))
   (gd [z0,z0] (.ok ⟨oV,((a1/a2,a1%a2,()),())⟩))
   (gd [Lx ((a2,()),()),!z2==(0:UInt64),ok0 z6,!z10==(0:UInt64),ok2 z19] (.ok ⟨oV,((z23.fst*(4294967296:UInt64)+z25,bE (z24.fst*(4294967296:UInt64)+z22.fst-z25*z20.fst) (↑(UInt64.toNat z21.fst):Int),()),())⟩)))))
theorem aek (h0:bh LD ok0 (YF g0_0)) (h2:bh LC ok2 (YE g2_2)) (pre:LF->Bool) (F:LF->OT nU.Y) (hF:∀ (x:LF) oy,pre x=true->(F x).run=some oy->(S2 ok0 g0_0 ok2 g2_2 x.1.1 x.1.2.1 x.1.2.2.1).run=some oy):aa aj 152 (nU.az pre F):=
 di CL 152 Tryz.f152 nU [oV] (lg CL 2 aug [(2,mU)] none none LC bD h2 (lg CL 0 auh [(0,mV)] none none LD bD h0 bD)) (λx=>S2 ok0 g0_0 ok2 g2_2 x.1.1 x.1.2.1 x.1.2.2.1) hF
end
def O2 (s:fD):Bool:=decide (s.1.2.2.2.1=0/\s.1.2.2.2.2.2.2.2.1<4294967296)
def YD (s:fD):uu:=((s.1.1,s.1.2.1,s.1.2.2.1,s.1.2.2.2.1,s.1.2.2.2.2.1,s.1.2.2.2.2.2.1,s.1.2.2.2.2.2.2.1,s.1.2.2.2.2.2.2.2.1,()),())
theorem I3 {a b:UInt64} (h:b<a):decide (a<=b)=false:=bq (by rw [UInt64.le_iff_toNat_le,UInt64.lt_iff_toNat_lt] at*;omega)
theorem not_lt_zero {a b:UInt64}:decide (a<b*0)=false:=bq (by
 have:b*0=0:=by rw [<-rI];simp
 rw [this,UInt64.lt_iff_toNat_lt]
 exact Nat.not_lt_zero _)
theorem auk:bh LD O2 (YF YD):=by
 rintro ⟨⟨a2,a8,a9,a10,a11,a13,a14,a15,a16,⟨⟩⟩,⟨⟩⟩ h
 have h':=bm h
 dsimp only at h'
 obtain ⟨rfl,hl⟩:=h'
 exact ⟨1,_,aV ((OT.au (I3 hl)).trans (OT.au not_lt_zero)),rfl⟩
def O1 (s:io):Bool:=decide (s.1.2.2.2.1=0/\s.1.2.2.2.2.2.2.2.2.1<4294967296)
def YC (s:io):ur:=((s.1.1,s.1.2.1,s.1.2.2.2.2.1,s.1.2.2.2.2.2.1,s.1.2.2.2.2.2.2.2.1,s.1.2.2.2.2.2.2.2.2.1,()),())
theorem auj:bh LC O1 (YE YC):=by
 rintro ⟨⟨a2,a8,a9,a10,a14,a15,a16,a17,a18,⟨⟩⟩,⟨⟩⟩ h
 have h':=bm h
 dsimp only at h'
 obtain ⟨rfl,hl⟩:=h'
 exact ⟨1,_,aV ((OT.au (I3 hl)).trans (OT.au not_lt_zero)),rfl⟩
def wo (x:LF):Bool:=jq x.1.2.2.1&&decide (x.1.1<x.1.2.2.1)
def S3 (x:LF):OT nU.Y:=.ok ⟨oV,((aFC x.1.1 x.1.2.1 x.1.2.2.1,adC x.1.1 x.1.2.1 x.1.2.2.1,()),())⟩
theorem an8 {v z:Nat} (hv:v<4294967296) (hz:z<4294967296):(v*4294967296%2^64+z)%2^64=(v*(256*16777216)+z)%2^64:=by
 rw [bn (a:=v*4294967296) (by omega)]
theorem av3 {s:Nat} (hs:s<4294967296):s*4294967296/2^40=s/256%2^64:=by
 rw [bn (by omega),show (2:Nat)^40=256*4294967296 from rfl,Nat.mul_div_mul_right _ _ (by omega)]
theorem Yz {h l y:UInt64} {m:Nat} (hm:y.toNat=m) (hy:(cE y 40).toNat=m*1099511627776) (hy1:(bE (cE y 40) 32).toNat=m*256) (hy0:cE y 40&&&4294967295=0) (hm0:0<m) (hm1:m<16777216) (hh:h.toNat<m):
 let u:=cE h 40|||bE l 24
 let q1:=u/bE (cE y 40) 32
 let un21:=u*4294967296+bE (cE l 40) 32-q1*cE y 40
 let q0:=un21/bE (cE y 40) 32
 q1<4294967296/\q0<4294967296/\q1*4294967296+q0=aFC h l y/\bE (un21*4294967296+(cE l 40&&&4294967295)-q0*cE y 40) 40=adC h l y:=by
 intro u q1 un21 q0
 have hl:=l.toNat_lt
 have hu:u.toNat=h.toNat*1099511627776+l.toNat/16777216:=by
  have e1:(cE h 40).toNat=h.toNat*1099511627776:=by
   rw [show ((40:Int))=((40:Nat):Int) from rfl,su _ _ (by omega)]
   exact bn (by omega)
  have e2:(bE l 24).toNat=l.toNat/16777216:=iB l 24 (by omega)
  simp only [u]
  rw [UInt64.toNat_or,e1,e2,Nat.mul_comm]
  have:=Nat.two_pow_add_eq_or_of_lt (i:=40) (b:=l.toNat/16777216) (by omega) h.toNat
  exact this.symm
 have hun1:(bE (cE l 40) 32).toNat=l.toNat%16777216*256:=by
  rw [show ((32:Int))=((32:Nat):Int) from rfl,iB _ _ (by omega),show ((40:Int))=((40:Nat):Int) from rfl,su _ _ (by omega)]
  omega
 have hun0:cE l 40&&&4294967295=0:=by
  rw [<-rI,mj,show ((40:Int))=((40:Nat):Int) from rfl,su _ _ (by omega)]
  show l.toNat*2^40%2^64%4294967296=0
  omega
 have hq1:q1.toNat=u.toNat/(m*256):=by simp only [q1];rw [UInt64.toNat_div,hy1]
 have hN:h.toNat*18446744073709551616+l.toNat=u.toNat*16777216+l.toNat%16777216:=by rw [hu];omega
 have hqr:u.toNat=q1.toNat*(m*256)+u.toNat%(m*256):=by
  rw [hq1,Nat.mul_comm]
  exact (Nat.div_add_mod _ _).symm
 have hr:u.toNat%(m*256)<m*256:=Nat.mod_lt _ (by omega)
 have hul:u.toNat<m*256*4294967296:=by rw [hu];omega
 have hq1l:q1.toNat<4294967296:=by rw [hq1];exact Nat.div_lt_of_lt_mul hul
 generalize hrr:u.toNat%(m*256)=r at*
 have hprod:q1.toNat*(m*1099511627776)=q1.toNat*(m*256)*4294967296:=by
  rw [Nat.mul_assoc,Nat.mul_assoc]
 have h21:un21.toNat=r*4294967296+l.toNat%16777216*256:=by
  simp only [un21]
  rw [UInt64.toNat_sub,UInt64.toNat_add,UInt64.toNat_mul,UInt64.toNat_mul,hun1,hy,hprod,show (4294967296:UInt64).toNat=4294967296 from rfl]
  generalize q1.toNat*(m*256)=A at*
  omega
 have hq0:q0.toNat=un21.toNat/(m*256):=by simp only [q0];rw [UInt64.toNat_div,hy1]
 have h21l:un21.toNat<m*256*4294967296:=by rw [h21];omega
 have hq0l:q0.toNat<4294967296:=by rw [hq0];exact Nat.div_lt_of_lt_mul h21l
 have hqr0:un21.toNat=q0.toNat*(m*256)+un21.toNat%(m*256):=by
  rw [hq0,Nat.mul_comm]
  exact (Nat.div_add_mod _ _).symm
 have hr0:un21.toNat%(m*256)<m*256:=Nat.mod_lt _ (by omega)
 obtain ⟨d1,d2⟩:=Sr (K:=16777216) (L:=256) hm0 (by omega) hN hqr
 have e21:(r*16777216+l.toNat%16777216)*256=un21.toNat:=by rw [h21];omega
 rw [e21] at d1 d2
 refine ⟨by rw [UInt64.lt_iff_toNat_lt];exact hq1l,by rw [UInt64.lt_iff_toNat_lt];exact hq0l,?_,?_⟩
 ·rw [<-rI,UInt64.toNat_add,UInt64.toNat_mul,show (4294967296:UInt64).toNat=4294967296 from rfl,hq0]
  unfold aFC
  rw [hm,dA,d1,<-hq0]
  exact an8 hq1l hq0l
 ·have hprod0:q0.toNat*(m*1099511627776)=q0.toNat*(m*256)*4294967296:=by
   rw [Nat.mul_assoc,Nat.mul_assoc]
  have e3:(un21*4294967296+(cE l 40&&&4294967295)-q0*cE y 40).toNat=(un21.toNat%(m*256))*4294967296:=by
   rw [hun0,UInt64.toNat_sub,UInt64.toNat_add,UInt64.toNat_mul,UInt64.toNat_mul,hy,hprod0,show (4294967296:UInt64).toNat=4294967296 from rfl,show (0:UInt64).toNat=0 from rfl]
   generalize un21.toNat%(m*256)=s at*
   generalize q0.toNat*(m*256)=A at*
   omega
  rw [<-rI,show ((40:Int))=((40:Nat):Int) from rfl,iB _ _ (by omega),show ((40:Nat):Int)=40 from rfl,e3]
  unfold adC
  rw [hm,dA,d2]
  exact av3 (by omega)
theorem aaB {y:UInt64} (h:jq y=true):∃ m,y.toNat=m/\(cE y 40).toNat=m*1099511627776/\(bE (cE y 40) 32).toNat=m*256/\cE y 40&&&4294967295=0/\0<m/\m<16777216:=by
 rcases ij h with rfl|rfl
 ·exact ⟨16513537,rfl,by decide+kernel,by decide+kernel,by decide+kernel,by omega,by omega⟩
 ·exact ⟨16521217,rfl,by decide+kernel,by decide+kernel,by decide+kernel,by omega,by omega⟩
theorem aui:aa aj 152 (nU.az wo S3):=aek O2 YD O1 YC auk auj _ _ λx oy hp ho=>by
 rw [<-ho]
 clear ho
 obtain ⟨⟨h,l,y,⟨⟩⟩,⟨⟩⟩:=x
 have hp':(jq y&&decide (h<y))=true:=hp
 rw [aw] at hp'
 obtain ⟨hs,hlt⟩:=hp'
 have hlt:=bm hlt
 obtain ⟨m,f1,f2,f3,f4,f5,f6⟩:=aaB hs
 have hh:h.toNat<m:=by rw [<-f1];exact UInt64.lt_iff_toNat_lt.1 hlt
 have hy0:¬y=0:=λe=>by rw [e] at f1;simp at f1;omega
 have hyb:(y==0)=false:=by simpa using hy0
 have hle:decide (y<=h)=false:=I3 hlt
 unfold S2
 refine (OT.au hyb).trans ((OT.au hle).trans ?_)
 by_cases h0:h=0
 ·subst h0
  refine (OT.ak rfl).trans ((ae ?_).trans ?_)
  ·simp only [hyb,aA,aI,aJ,Bool.not_false]
  ·have e1:aFC 0 l y=l/y:=by
    rw [<-rI]
    unfold aFC
    rw [dA,UInt64.toNat_div,show (0:UInt64).toNat=0 from rfl,Nat.zero_mul,Nat.zero_add]
    exact bn (Nat.lt_of_le_of_lt (Nat.div_le_self _ _) l.toNat_lt)
   have e2:adC 0 l y=l%y:=by
    rw [<-rI]
    unfold adC
    rw [dA,UInt64.toNat_mod,show (0:UInt64).toNat=0 from rfl,Nat.zero_mul,Nat.zero_add]
    exact bn (Nat.lt_of_le_of_lt (Nat.mod_le _ _) l.toNat_lt)
   simp only [S3,e1,e2]
 ·have hb:(h==0)=false:=by simpa using h0
  obtain ⟨w1,w2,w3,w4⟩:=Yz (l:=l) f1 f2 f3 f4 f5 f6 hh
  have hz:(!(bE (cE y 40) 32==0))=true:=by
   have:¬bE (cE y 40) 32=0:=λe=>by rw [e] at f3;simp at f3;omega
   simpa using this
  refine (OT.au hb).trans ((ae ?_).trans ?_)
  ·simp only [aA,aI,aJ,aw]
   exact ⟨hs,hz,ag ⟨f4,w1⟩,hz,ag ⟨f4,w2⟩⟩
  ·show some (⟨oV,((_,bE _ ((40:UInt64).toNat:Int),()),())⟩:nU.Y)=some ⟨oV,((aFC h l y,adC h l y,()),())⟩
   rw [<-w3,<-w4]
   rfl
def zY:bt:=(nU.az wo S3)
theorem YB:aa aj 152 zY:=aui
theorem YA:ax zY:=av
def ajR:Env:=aq 152 zY avM
theorem E6:bV aj te ajR:=aU follows CL YB YA
def HB:af:=⟨[dw,dw],[],true,0,false⟩
abbrev aon:Type:=xo×Unit
def aCG:Shape:=⟨29,aBL,aiU,0,true⟩
abbrev ja:Type:=YR
def AC:Shape:=⟨29,[eD,jV,(7,aQ)],uD,0,true⟩
abbrev uT:Type:=aiJ
def aCJ (a7:UInt64) (a9:Int) (c0:ap) (c1:ap) (c2:ap) (c3:ap):OT (Sum ja aZ):=
 let z0:Bool:=inB a9 4
 let z1:UInt64:=List.getD c0 (Int.toNat a9+0) (0:UInt64)
 let z2:UInt64:=List.getD c1 (Int.toNat a9+0) (0:UInt64)
 (.br (decide (a9<(4:Int)))
 (gd [z0,decide (Int.toNat a9+0<List.length c0),z0,decide (Int.toNat a9+0<List.length c1),EP ((z1,z2,a7,()),()),z0,decide (Int.toNat a9+0<List.length c3),inR (a9+(1:Int))] (.ok (.inl (((),(),(),(),Gn z1 z2 a7,a9+(1:Int),()),c0,c1,c2,List.set c3 (Int.toNat a9+0) (Ae z1 z2 a7),()))))
 (.ok (.inr ⟨(.exit 0,AC),(((),(),a7,()),c2,c3,())⟩)))
def PP (s:ja):OT (Sum ja aZ):=aCJ s.1.2.2.2.2.1 s.1.2.2.2.2.2.1 s.2.1 s.2.2.1 s.2.2.2.1 s.2.2.2.2.1
def aol (g0_0:ja->uT) (s:ja):OT aZ:=(.ok ⟨(.exit 0,AC),g0_0 s⟩)
def ZO:aL:=⟨[dw,rH],[],false⟩
section
variable (ok0:ja->Bool) (g0_0:ja->uT)
def aAj (a0:ab) (a1:ab):OT HB.Y:=
 let z0:ja:=(((),(),(),(),(0:UInt64),(0:Int),()),[a0.w0,a0.w1,a0.w2,a0.w3],[a1.w0,a1.w1,a1.w2,a1.w3],[(0:UInt64),(0:UInt64),(0:UInt64),(0:UInt64)],[(0:UInt64),(0:UInt64),(0:UInt64),(0:UInt64)],())
 let z1:uT:=g0_0 z0
 let z2:=z1.snd
 let z3:=z2.snd.fst
 let z4:=z2.fst
 let z5:ap:=lay z4 z3 4 (0:UInt64)
 (gd [ok0 z0,decide (4<=List.length z3),decide ((4/1:Nat)+0<=List.length z4),decide (4<=List.length z5)] (.ok ⟨ZO,(({w0:=List.getD z5 0 0,w1:=List.getD z5 1 0,w2:=List.getD z5 2 0,w3:=List.getD z5 3 0},!z1.fst.snd.snd.fst==(0:UInt64),()),())⟩))
theorem aoj (h0:bh PP ok0 (aol g0_0)) (pre:aon->Bool) (F:aon->OT HB.Y) (hF:∀ (x:aon) oy,pre x=true->(F x).run=some oy->(aAj ok0 g0_0 x.1.1 x.1.2.1).run=some oy):aa aj 128 (HB.az pre F):=
 di E6 128 Tryz.f128 HB [ZO] (lg E6 0 aCG [(0,AC)] none none PP bD h0 bD) (λx=>aAj ok0 g0_0 x.1.1 x.1.2.1) hF
end
def az3 (a b:ap) (k:Nat) (s:F0):F0:=(s.1.set k (Ae (a.getD k 0) (b.getD k 0) s.2),Gn (a.getD k 0) (b.getD k 0) s.2)
def aeO (s:ja):Bool:=decide (s.1.2.2.2.2.1=0/\s.1.2.2.2.2.2.1=0/\s.2.1.length=4/\s.2.2.1.length=4/\s.2.2.2.2.1= [0,0,0,0])
def aok (s:ja):uT:=(((),(),(upto (az3 s.2.1 s.2.2.1) ([0,0,0,0],0) 4).2,()),s.2.2.2.1,(upto (az3 s.2.1 s.2.2.1) ([0,0,0,0],0) 4).1,())
theorem aCI:bh PP aeO (aol aok):=by
 rintro ⟨⟨⟨⟩,⟨⟩,⟨⟩,⟨⟩,c,i,⟨⟩⟩,⟨c0,c1,c2,c3,⟨⟩⟩⟩ h
 have h':=bm h
 dsimp only at h'
 obtain ⟨rfl,rfl,h0,h1,rfl⟩:=h'
 have:=(bf (T:=PP) (λk s=>((((),(),(),(),s.2,(k:Int),()),c0,c1,c2,s.1,()):ja)) (az3 c0 c1)
  (λs=>(⟨(.exit 0,AC),(((),(),s.2,()),c2,s.1,())⟩:aZ)) 4 ([0,0,0,0],0) (λ_ s=>s.1.length=4/\s.2.toNat<=1) ⟨rfl,by decide⟩ (λk s hk hs=>⟨?_,?_⟩) (λs hs=> ?_)).1
 ·obtain ⟨m,hm⟩:=this
  exact ⟨m,_,hm,rfl⟩
 ·refine (OT.ak (ag (by dsimp only;omega))).trans ((ae ?_).trans ?_)
  ·simp only [cD,Nat.add_zero,h0,h1,hs.1,aA,aI,aJ,aw]
   exact ⟨ba (by omega),ag (by omega),ba (by omega),ag (by omega),ag hs.2,ba (by omega),ag (by omega),aS (by omega)⟩
  ·simp only [OT.jf,cD,Nat.add_zero]
   rfl
 ·exact ⟨by simp only [az3,cu];exact hs.1,LP hs.2⟩
 ·exact OT.au (bq (by dsimp only;omega))
theorem aIE (x y:ap) (hx:x.length=4) (hy:y.length=4):lay x y 4 0=y:=VQ hx hy
def aeN (_:aon):Bool:=true
def aom (x:aon):OT HB.Y:=.ok ⟨ZO,(((Tp x.1.1 x.1.2.1).1,(Tp x.1.1 x.1.2.1).2,()),())⟩
theorem aCH:aa aj 128 (HB.az aeN aom):=aoj aeO aok aCI _ _ λx oy hp ho=>by
 rw [<-ho]
 clear ho
 obtain ⟨⟨a,b,⟨⟩⟩,⟨⟩⟩:=x
 obtain ⟨_,hw⟩:=ajV a b
 refine (ae ?_).trans ?_
 ·simp only [aA,aI,aJ,aw]
  exact ⟨rfl,rfl,rfl,rfl⟩
 ·simp only [aom,hw]
  rfl
def HA:bt:=(HB.az aeN aom)
theorem akb:aa aj 128 HA:=aCH
theorem aka:ax HA:=av
def aB2:Env:=aq 128 HA ajR
theorem Th:bV aj te aB2:=aU follows E6 akb aka
def Hs:af:=⟨[dw,dw],[],true,0,false⟩
abbrev anZ:Type:=xo×Unit
def aCv:Shape:=⟨29,aBL,aiU,0,true⟩
abbrev iY:Type:=YR
def Aw:Shape:=⟨29,[eD,jV,(7,aQ)],uD,0,true⟩
abbrev uQ:Type:=aiJ
def aCy (a7:UInt64) (a9:Int) (c0:ap) (c1:ap) (c2:ap) (c3:ap):OT (Sum iY aZ):=
 let z0:Bool:=inB a9 4
 let z1:UInt64:=List.getD c0 (Int.toNat a9+0) (0:UInt64)
 let z2:UInt64:=List.getD c1 (Int.toNat a9+0) (0:UInt64)
 (.br (decide (a9<(4:Int)))
 (gd [z0,decide (Int.toNat a9+0<List.length c0),z0,decide (Int.toNat a9+0<List.length c1),EJ ((z1,z2,a7,()),()),z0,decide (Int.toNat a9+0<List.length c3),inR (a9+(1:Int))] (.ok (.inl (((),(),(),(),aaw z1 z2 a7,a9+(1:Int),()),c0,c1,c2,List.set c3 (Int.toNat a9+0) (rN z1 z2 a7),()))))
 (.ok (.inr ⟨(.exit 0,Aw),(((),(),a7,()),c2,c3,())⟩)))
def PK (s:iY):OT (Sum iY aZ):=aCy s.1.2.2.2.2.1 s.1.2.2.2.2.2.1 s.2.1 s.2.2.1 s.2.2.2.1 s.2.2.2.2.1
def anX (g0_0:iY->uQ) (s:iY):OT aZ:=(.ok ⟨(.exit 0,Aw),g0_0 s⟩)
def ZI:aL:=⟨[dw,rH],[],false⟩
section
variable (ok0:iY->Bool) (g0_0:iY->uQ)
def aAc (a0:ab) (a1:ab):OT Hs.Y:=
 let z0:iY:=(((),(),(),(),(0:UInt64),(0:Int),()),[a0.w0,a0.w1,a0.w2,a0.w3],[a1.w0,a1.w1,a1.w2,a1.w3],[(0:UInt64),(0:UInt64),(0:UInt64),(0:UInt64)],[(0:UInt64),(0:UInt64),(0:UInt64),(0:UInt64)],())
 let z1:uQ:=g0_0 z0
 let z2:=z1.snd
 let z3:=z2.snd.fst
 let z4:=z2.fst
 let z5:ap:=lay z4 z3 4 (0:UInt64)
 (gd [ok0 z0,decide (4<=List.length z3),decide ((4/1:Nat)+0<=List.length z4),decide (4<=List.length z5)] (.ok ⟨ZI,(({w0:=List.getD z5 0 0,w1:=List.getD z5 1 0,w2:=List.getD z5 2 0,w3:=List.getD z5 3 0},!z1.fst.snd.snd.fst==(0:UInt64),()),())⟩))
theorem anV (h0:bh PK ok0 (anX g0_0)) (pre:anZ->Bool) (F:anZ->OT Hs.Y) (hF:∀ (x:anZ) oy,pre x=true->(F x).run=some oy->(aAc ok0 g0_0 x.1.1 x.1.2.1).run=some oy):aa aj 118 (Hs.az pre F):=
 di Th 118 Tryz.f118 Hs [ZI] (lg Th 0 aCv [(0,Aw)] none none PK bD h0 bD) (λx=>aAc ok0 g0_0 x.1.1 x.1.2.1) hF
end
def awZ (a b:ap) (k:Nat) (s:F0):F0:=(s.1.set k (rN (a.getD k 0) (b.getD k 0) s.2),aaw (a.getD k 0) (b.getD k 0) s.2)
def aeE (s:iY):Bool:=decide (s.1.2.2.2.2.1=0/\s.1.2.2.2.2.2.1=0/\s.2.1.length=4/\s.2.2.1.length=4/\s.2.2.2.2.1= [0,0,0,0])
def anW (s:iY):uQ:=(((),(),(upto (awZ s.2.1 s.2.2.1) ([0,0,0,0],0) 4).2,()),s.2.2.2.1,(upto (awZ s.2.1 s.2.2.1) ([0,0,0,0],0) 4).1,())
theorem aCx:bh PK aeE (anX anW):=by
 rintro ⟨⟨⟨⟩,⟨⟩,⟨⟩,⟨⟩,c,i,⟨⟩⟩,⟨c0,c1,c2,c3,⟨⟩⟩⟩ h
 have h':=bm h
 dsimp only at h'
 obtain ⟨rfl,rfl,h0,h1,rfl⟩:=h'
 have:=(bf (T:=PK) (λk s=>((((),(),(),(),s.2,(k:Int),()),c0,c1,c2,s.1,()):iY)) (awZ c0 c1)
  (λs=>(⟨(.exit 0,Aw),(((),(),s.2,()),c2,s.1,())⟩:aZ)) 4 ([0,0,0,0],0) (λ_ s=>s.1.length=4/\s.2.toNat<=1) ⟨rfl,by decide⟩ (λk s hk hs=>⟨?_,?_⟩) (λs hs=> ?_)).1
 ·obtain ⟨m,hm⟩:=this
  exact ⟨m,_,hm,rfl⟩
 ·refine (OT.ak (ag (by dsimp only;omega))).trans ((ae ?_).trans ?_)
  ·simp only [cD,Nat.add_zero,h0,h1,hs.1,aA,aI,aJ,aw]
   exact ⟨ba (by omega),ag (by omega),ba (by omega),ag (by omega),ag hs.2,ba (by omega),ag (by omega),aS (by omega)⟩
  ·simp only [OT.jf,cD,Nat.add_zero]
   rfl
 ·exact ⟨by simp only [awZ,cu];exact hs.1,H9⟩
 ·exact OT.au (bq (by dsimp only;omega))
def aeD (_:anZ):Bool:=true
def anY (x:anZ):OT Hs.Y:=.ok ⟨ZI,(((ng x.1.1 x.1.2.1).1,(ng x.1.1 x.1.2.1).2,()),())⟩
theorem aCw:aa aj 118 (Hs.az aeD anY):=anV aeE anW aCx _ _ λx oy hp ho=>by
 rw [<-ho]
 clear ho
 obtain ⟨⟨a,b,⟨⟩⟩,⟨⟩⟩:=x
 obtain ⟨_,hw⟩:=aj6 a b
 refine (ae ?_).trans ?_
 ·simp only [aA,aI,aJ,aw]
  exact ⟨rfl,rfl,rfl,rfl⟩
 ·simp only [anY,hw]
  rfl
def Hr:bt:=(Hs.az aeD anY)
theorem ajX:aa aj 118 Hr:=aCw
theorem ajW:ax Hr:=av
def aBZ:Env:=aq 118 Hr aB2
theorem ai1:bV aj te aBZ:=aU follows Th ajX ajW
def xB:af:=⟨[dw,dw],[],true,0,false⟩
abbrev TF:Type:=xo×Unit
def PO:aL:=⟨og,[],false⟩
def aoa (a0:ab) (a1:ab):OT xB.Y:=
 (.ok ⟨PO,(((ng a0 a1).snd,()),())⟩)
theorem aj5 (pre:TF->Bool) (F:TF->OT xB.Y) (hF:∀ (x:TF) oy,pre x=true->(F x).run=some oy->(aoa x.1.1 x.1.2.1).run=some oy):aa aj 112 (xB.az pre F):=
 di ai1 112 Tryz.f112 xB [PO] bD (λx=>aoa x.1.1 x.1.2.1) hF
def TC (_:TF):Bool:=true
def aob (x:TF):OT xB.Y:=.ok ⟨PO,((Nat.blt x.1.1.nat x.1.2.1.nat,()),())⟩
theorem av5:aa aj 112 (xB.az TC aob):=aj5 _ _ λx oy _ ho=>ho
def CV:bt:=(xB.az TC aob)
theorem ZN:aa aj 112 CV:=av5
theorem ZM:ax CV:=av
def au3:Env:=aq 112 CV aBZ
theorem Y3:bV aj te au3:=aU follows ai1 ZN ZM
def Fa:af:=⟨kZ,[],true,0,false⟩
abbrev aoi:Type:=aiG
def CY:aL:=⟨og,[],false⟩
def aAh (a0:ab) (a1:Int):OT Fa.Y:=
 let z0:Int:=Int.tdiv a1 (64:Int)
 let z1:Int:=Int.tmod a1 (64:Int)
 (.br (decide ((0:Int)<=a1))
 (.br (decide (a1<(256:Int)))
  (gd [true&&inR z0,inB z0 4,decide (Int.toNat z0+0<4),decide ((0:Int)<=z1)] (.ok ⟨CY,((bE (List.getD [a0.w0,a0.w1,a0.w2,a0.w3] (Int.toNat z0+0) (0:UInt64)) z1&&&(1:UInt64)==(1:UInt64),()),())⟩))
  (.ok ⟨CY,((false,()),())⟩))
 (.ok ⟨CY,((false,()),())⟩))
theorem aoh (pre:aoi->Bool) (F:aoi->OT Fa.Y) (hF:∀ (x:aoi) oy,pre x=true->(F x).run=some oy->(aAh x.1.1 x.1.2.1).run=some oy):aa aj 169 (Fa.az pre F):=
 di Y3 169 Tryz.f169 Fa [CY] bD (λx=>aAh x.1.1 x.1.2.1) hF
def rA (a:ab) (i:Int):Bool:=cond (decide (0<=i)) (cond (decide (i<256)) (avV a.nat i.toNat) false) false
def aeL (_:aoi):Bool:=true
def aAi (x:aoi):OT Fa.Y:=.ok ⟨CY,((rA x.1.1 x.1.2.1,()),())⟩
theorem aud {a:ab} {i:Int} (h1:0<=i) (h2:i<256):(bE (List.getD [a.w0,a.w1,a.w2,a.w3] (Int.toNat (Int.tdiv i 64)+0) 0) (Int.tmod i 64)&&&1==1)=rA a i:=by
 obtain ⟨n,rfl⟩:∃ n:Nat,i=(n:Int):=⟨i.toNat,by omega⟩
 have hn:n<256:=by omega
 have t1:Int.tdiv (n:Int) 64=((n/64:Nat):Int):=by rw [Int.tdiv_eq_ediv_of_nonneg (by omega)];omega
 have t2:Int.tmod (n:Int) 64=((n%64:Nat):Int):=by rw [Int.tmod_eq_emod_of_nonneg (by omega)];omega
 rw [t1,t2,auf,iB _ _ (by omega),cD,Nat.add_zero]
 have:=air (a:=a) (q:=n/64) (r:=n%64) (by omega) (by omega)
 rw [show 64*(n/64)+n%64=n by omega] at this
 unfold rA avV
 rw [ag h1,ag h2,cD]
 simp only [aK]
 rw [<-this]
 rfl
theorem aCF:aa aj 169 (Fa.az aeL aAi):=aoh _ _ λx oy _ ho=>by
 rw [<-ho]
 clear ho
 obtain ⟨⟨a,i,⟨⟩⟩,⟨⟩⟩:=x
 show _=(OT.ok ⟨CY,((rA a i,()),())⟩:OT Fa.Y).run
 by_cases h1:0<=i
 ·refine (OT.ak (ag h1)).trans ?_
  by_cases h2:i<256
  ·refine (OT.ak (ag h2)).trans ((ae ?_).trans ?_)
   ·obtain ⟨n,rfl⟩:∃ n:Nat,i=(n:Int):=⟨i.toNat,by omega⟩
    have t1:Int.tdiv (n:Int) 64=((n/64:Nat):Int):=by rw [Int.tdiv_eq_ediv_of_nonneg (by omega)];omega
    have t2:Int.tmod (n:Int) 64=((n%64:Nat):Int):=by rw [Int.tmod_eq_emod_of_nonneg (by omega)];omega
    simp only [t1,t2,cD,Nat.add_zero,aA,aI,aJ,aw,Bool.true_and]
    exact ⟨aS (by omega),ba (by omega),ag (by omega),ag (by omega)⟩
   ·simp only [aud h1 h2]
  ·have e:rA a i=false:=by unfold rA;rw [ag h1,bq h2];rfl
   rw [e]
   exact OT.au (bq h2)
 ·have e:rA a i=false:=by unfold rA;rw [bq h1];rfl
  rw [e]
  exact OT.au (bq h1)
def Hz:bt:=(Fa.az aeL aAi)
theorem aj8:aa aj 169 Hz:=aCF
theorem aj7:ax Hz:=av
def aB1:Env:=aq 169 Hz au3
theorem Tg:bV aj te aB1:=aU follows Y3 aj8 aj7
theorem GF (x b:UInt64) (hb:b.toNat<=1):2*x.toNat+b.toNat=(cE x 1|||b).toNat+18446744073709551616*(bE x 63).toNat:=by
 have hx:=x.toNat_lt
 have e1:(cE x 1).toNat=2^1*(x.toNat%9223372036854775808):=by
  have e:(cE x 1).toNat=x.toNat*2^1%2^64:=su x 1 (by omega)
  rw [e]
  omega
 have e2:(bE x 63).toNat=x.toNat/2^63:=iB x 63 (by omega)
 have e3:=Nat.two_pow_add_eq_or_of_lt (i:=1) (b:=b.toNat) (by omega) (x.toNat%9223372036854775808)
 rw [UInt64.toNat_or,e1,<-e3,e2]
 omega
theorem Qm (x:UInt64):(bE x 63).toNat<=1:=by
 have hx:=x.toNat_lt
 have e2:(bE x 63).toNat=x.toNat/2^63:=iB x 63 (by omega)
 rw [e2]
 omega
def dr (a:ab) (b:UInt64):ab×UInt64:=(⟨cE a.w0 1|||b,cE a.w1 1|||bE a.w0 63,cE a.w2 1|||bE a.w1 63,cE a.w3 1|||bE a.w2 63⟩,bE a.w3 63)
theorem akO (a:ab) (b:UInt64) (hb:b.toNat<=1):2*a.nat+b.toNat=(dr a b).1.nat+115792089237316195423570985008687907853269984665640564039457584007913129639936*(dr a b).2.toNat:=by
 have h0:=GF a.w0 b hb
 have h1:=GF a.w1 _ (Qm a.w0)
 have h2:=GF a.w2 _ (Qm a.w1)
 have h3:=GF a.w3 _ (Qm a.w2)
 unfold dr Sx.ab.nat
 dsimp only
 omega
def apD (m r:ab) (b:UInt64):ab:=cond (!((dr r b).2==0)) (ng (dr r b).1 m).1 (cond (!(ng (dr r b).1 m).2) (ng (dr r b).1 m).1 (dr r b).1)
theorem agJ {n m:Nat} (h1:m<=n) (h2:n<2*m):n-m=n%m:=by
 rw [Nat.mod_eq_sub_mod h1,bn (by omega)]
theorem axf {m r:ab} {b:UInt64} (hb:b.toNat<=1) (hr:r.nat<m.nat):(apD m r b).nat=(2*r.nat+b.toNat)%m.nat:=by
 have h:=akO r b hb
 have hm:=jn m
 have hs:=jn (dr r b).1
 have h2:(dr r b).2.toNat<=1:=Qm _
 have hw:(ng (dr r b).1 m).1.nat=((dr r b).1.nat+115792089237316195423570985008687907853269984665640564039457584007913129639936-m.nat)%115792089237316195423570985008687907853269984665640564039457584007913129639936:=by
  unfold ng
  exact QP _
 unfold apD
 cases ho:(dr r b).2==0
 ·have ho:(dr r b).2.toNat=1:=by
   have:(dr r b).2.toNat≠0:=λe=>by
    have e':(dr r b).2=0:=UInt64.toNat_inj.1 e
    rw [e'] at ho
    cases ho
   omega
  show (ng (dr r b).1 m).1.nat=_
  rw [hw,<-agJ (n:=2*r.nat+b.toNat) (by omega) (by omega),bn (by omega)]
  omega
 ·have ho:(dr r b).2.toNat=0:=by
   rw [beq_iff_eq] at ho
   rw [ho]
   rfl
  have e:2*r.nat+b.toNat=(dr r b).1.nat:=by omega
  cases hu:(ng (dr r b).1 m).2
  ·have hu':m.nat<=(dr r b).1.nat:=by
    rw [aeK] at hu
    exact Nat.le_of_not_lt λh'=>by rw [(Nat.blt_eq ..).mpr h'] at hu;cases hu
   show (ng (dr r b).1 m).1.nat=_
   rw [AA hu',e,agJ hu' (by omega)]
  ·have hu':(dr r b).1.nat<m.nat:=by
    rw [aeK] at hu
    exact (Nat.blt_eq ..).mp hu
   show (dr r b).1.nat=_
   rw [e,bn hu']
def MQ (a:ab) (i:Nat):UInt64:=bE ((lst a).getD (i/64) 0) ((i%64:Nat):Int)&&&1
theorem azD (a:ab) {i:Nat} (hi:i<256):(MQ a i).toNat=a.nat/2^i%2:=by
 have e:∀ x:UInt64,(x&&&1).toNat=x.toNat%2:=λx=>by
  rw [UInt64.toNat_and]
  exact Nat.and_two_pow_sub_one_eq_mod x.toNat 1
 unfold MQ
 rw [e,iB _ _ (by omega),air (by omega) (by omega),show 64*(i/64)+i%64=i by omega]
def avN (m a r:ab):Nat->ab:=upto (λk r=>apD m r (MQ a (255-k))) r
theorem Qp {m a r:ab} (hr:r.nat<m.nat):∀ k,k<=256->(avN m a r k).nat=(r.nat*2^k+a.nat/2^(256-k))%m.nat/\(avN m a r k).nat<m.nat
 |0,_=>by
  have h:=jn a
  refine ⟨?_,hr⟩
  show r.nat=_
  rw [Nat.pow_zero,Nat.mul_one,Nat.div_eq_of_lt h,Nat.add_zero,bn hr]
 |k+1,hk=>by
  obtain ⟨h1,h2⟩:=Qp (a:=a) hr k (by omega)
  have hb:=azD a (i:=255-k) (by omega)
  have hb1:(MQ a (255-k)).toNat<=1:=by omega
  have h3:=axf hb1 h2
  have e:(avN m a r (k+1)).nat=(2*(avN m a r k).nat+(MQ a (255-k)).toNat)%m.nat:=h3
  have e2:a.nat/2^(255-k)=2*(a.nat/2^(256-k))+(MQ a (255-k)).toNat:=by
   rw [hb,show 256-k=255-k+1 by omega,Nat.pow_succ,<-Nat.div_div_eq_div_mul]
   omega
  refine ⟨?_,?_⟩
  ·rw [e,h1,show 256-(k+1)=255-k by omega,e2,Nat.pow_succ]
   rw [<-Nat.mod_add_mod,Nat.mul_mod_mod,Nat.mod_add_mod]
   congr 1
   rw [Nat.mul_add,<-Nat.mul_assoc,Nat.mul_comm (2^k) 2,<-Nat.mul_assoc,Nat.mul_comm r.nat 2,Nat.add_assoc]
  ·rw [e]
   exact Nat.mod_lt _ (by omega)
def aFu (lo hi m:ab):ab:=ofN ((lo.nat+115792089237316195423570985008687907853269984665640564039457584007913129639936*hi.nat)%m.nat)
theorem axh {m lo hi:ab} (hm:0<m.nat):avN m lo (avN m hi ⟨0,0,0,0⟩ 256) 256=aFu lo hi m:=by
 have h0:(⟨0,0,0,0⟩:ab).nat<m.nat:=hm
 obtain ⟨h1,h2⟩:=Qp (a:=hi) h0 256 (Nat.le_refl _)
 obtain ⟨h3,h4⟩:=Qp (a:=lo) h2 256 (Nat.le_refl _)
 have hl:=jn m
 refine gI ?_
 unfold aFu
 rw [h3,h1,oc (Nat.lt_trans (Nat.mod_lt _ hm) hl),show 256-256=0 from rfl,Nat.pow_zero,Nat.div_one,Nat.div_one,show (⟨0,0,0,0⟩:ab).nat=0 from rfl,Nat.zero_mul,Nat.zero_add,<-Nat.mod_add_mod,Nat.mod_mul_mod,Nat.mod_add_mod,Nat.mul_comm,Nat.add_comm]
def pg:af:=⟨[dw,aQ],[],true,0,false⟩
abbrev Hu:Type:=(ab×m4)×Unit
def an0:Shape:=⟨25,[(1,aQ),Cw,(4,ir),xp],uD,0,true⟩
abbrev fj:Type:=(UInt64×m5)×Af
def pf:Shape:=⟨25,[(1,aQ),Cw,(4,ir)],uD,0,true⟩
abbrev nj:Type:=(UInt64×m6)×Af
def an3 (a1:UInt64) (a7:Int) (c0:ap) (c1:ap):OT (Sum fj aZ):=
 let z0:Bool:=inB a7 4
 let z1:Bool:=decide (Int.toNat a7+0<List.length c0)
 let z2:UInt64:=List.getD c0 (Int.toNat a7+0) (0:UInt64)
 (.br (decide (a7<(4:Int)))
 (gd [z0,z1,z0,z1,z0,z1,inR (a7+(1:Int))] (.ok (.inl ((bE z2 (63:Int),(),(),a7+(1:Int),()),List.set c0 (Int.toNat a7+0) (cE z2 (1:Int)|||a1),c1,()))))
 (.ok (.inr ⟨(.exit 0,pf),((a1,(),(),()),c0,c1,())⟩)))
def Ax (s:fj):OT (Sum fj aZ):=an3 s.1.1 s.1.2.2.2.1 s.2.1 s.2.2.1
def Tz (g0_0:fj->nj) (s:fj):OT aZ:=(.ok ⟨(.exit 0,pf),g0_0 s⟩)
def Ht:aL:=⟨[dw,aQ],[],false⟩
section
variable (ok0:fj->Bool) (g0_0:fj->nj)
def aeF (a0:ab) (a1:UInt64):OT pg.Y:=
 let z0:fj:=((a1,(),(),(0:Int),()),[a0.w0,a0.w1,a0.w2,a0.w3],[(0:UInt64),(0:UInt64),(0:UInt64),(0:UInt64)],())
 let z1:nj:=g0_0 z0
 let z2:=z1.snd
 let z3:=z2.fst
 let z4:=z2.snd.fst
 let z5:ap:=lay z4 z3 4 (0:UInt64)
 (gd [ok0 z0,decide (4<=List.length z3),decide ((4/1:Nat)+0<=List.length z4),decide (4<=List.length z5)] (.ok ⟨Ht,(({w0:=List.getD z5 0 0,w1:=List.getD z5 1 0,w2:=List.getD z5 2 0,w3:=List.getD z5 3 0},z1.fst.fst,()),())⟩))
theorem ZJ (h0:bh Ax ok0 (Tz g0_0)) (pre:Hu->Bool) (F:Hu->OT pg.Y) (hF:∀ (x:Hu) oy,pre x=true->(F x).run=some oy->(aeF ok0 g0_0 x.1.1 x.1.2.1).run=some oy):aa aj 184 (pg.az pre F):=
 di Tg 184 Tryz.f184 pg [Ht] (lg Tg 0 an0 [(0,pf)] none none Ax bD h0 bD) (λx=>aeF ok0 g0_0 x.1.1 x.1.2.1) hF
end
def aHG (k:Nat) (s:F0):F0:=(s.1.set k (cE (s.1.getD k 0) 1|||s.2),bE (s.1.getD k 0) 63)
def M3 (s:fj):Bool:=decide (s.1.2.2.2.1=0/\s.2.1.length=4)
def Tx (s:fj):nj:=(((upto aHG (s.2.1,s.1.1) 4).2,(),(),()),(upto aHG (s.2.1,s.1.1) 4).1,s.2.2.1,())
theorem an2:bh Ax M3 (Tz Tx):=by
 rintro ⟨⟨b,⟨⟩,⟨⟩,i,⟨⟩⟩,⟨a,r,⟨⟩⟩⟩ h
 have h':=bm h
 dsimp only at h'
 obtain ⟨rfl,hl⟩:=h'
 have:=(bf (T:=Ax) (λk s=>(((s.2,(),(),(k:Int),()),s.1,r,()):fj)) aHG
  (λs=>(⟨(.exit 0,pf),((s.2,(),(),()),s.1,r,())⟩:aZ)) 4 (a,b) (λ_ s=>s.1.length=4) hl (λk s hk hs=>⟨?_,(cu ..).trans hs⟩) (λs hs=> ?_)).1
 ·obtain ⟨m,hm⟩:=this
  exact ⟨m,_,hm,rfl⟩
 ·refine (OT.ak (ag (by dsimp only;omega))).trans ((ae ?_).trans ?_)
  ·simp only [cD,Nat.add_zero,hs,aA,aI,aJ,aw]
   exact ⟨ba (by omega),ag (by omega),ba (by omega),ag (by omega),ba (by omega),ag (by omega),aS (by omega)⟩
  ·simp only [OT.jf,cD,Nat.add_zero]
   rfl
 ·exact OT.au (bq (by dsimp only;omega))
def M0 (_:Hu):Bool:=true
def aeG (x:Hu):OT pg.Y:=.ok ⟨Ht,(((dr x.1.1 x.1.2.1).1,(dr x.1.1 x.1.2.1).2,()),())⟩
theorem an1:aa aj 184 (pg.az M0 aeG):=ZJ M3 Tx an2 _ _ λx oy hp ho=>by
 rw [<-ho]
 clear ho
 obtain ⟨⟨a,b,⟨⟩⟩,⟨⟩⟩:=x
 refine (ae ?_).trans rfl
 simp only [aA,aI,aJ,aw]
 exact ⟨rfl,rfl,rfl,rfl⟩
def xw:bt:=(pg.az M0 aeG)
theorem Tw:aa aj 184 xw:=an1
theorem Tv:ax xw:=av
def ai2:Env:=aq 184 xw aB1
theorem ET:bV aj te ai2:=aU follows Tg Tw Tv
def E7:af:=⟨[dw,dw,dw],[],true,0,false⟩
abbrev an7:Type:=(ab×xo)×Unit
def aCz:Shape:=⟨57,[(5,eX),jV,uK,(10,gv),(11,aC),(21,.val true (.arr 2 .elem)),(22,aC)],aiU,0,true⟩
abbrev gn:Type:=(Unit×Unit×Unit×Unit×Int×aB×eU)×o7
def Ay:Shape:=⟨57,[(5,eX),jV,uK,(21,.val true (.arr 2 .elem)),(22,aC)],aiR,0,true⟩
abbrev uR:Type:=(Unit×Unit×Unit×aB×eU)×o5
def ZL (a11:Int) (a21:aB) (a22:Int) (c0:ap) (c1:ap) (c2:ap) (c3:ap):OT (Sum gn aZ):=
 let z0:Nat:=List.length c2
 let z1:Int:=Int.tdiv a11 (64:Int)
 let z2:Int:=Int.tmod a11 (64:Int)
 let z3:ab×UInt64:=dr {w0:=List.getD c2 0 0,w1:=List.getD c2 1 0,w2:=List.getD c2 2 0,w3:=List.getD c2 3 0} (bE (List.getD c3 (Int.toNat z1+0) (0:UInt64)) z2&&&(1:UInt64))
 let z4:=z3.fst
 let z5:ap:=List.set (List.set (List.set (List.set c2 0 z4.w0) 1 z4.w1) 2 z4.w2) 3 z4.w3
 let z6:Nat:=List.length z5
 let z7:Bool:=decide ((4/1:Nat)+0<=z6)
 let z8:Bool:=inR (a11-(1:Int))
 let z9:ab:= {w0:=0,w1:=0,w2:=0,w3:=0}
 let z10:ab×Bool:=ng {w0:=List.getD z5 0 0,w1:=List.getD z5 1 0,w2:=List.getD z5 2 0,w3:=List.getD z5 3 0} {w0:=List.getD c0 0 0,w1:=List.getD c0 1 0,w2:=List.getD c0 2 0,w3:=List.getD c0 3 0}
 let z11:=z10.fst
 let z12:ap:=List.set (List.set (List.set (List.set z5 0 z11.w0) 1 z11.w1) 2 z11.w2) 3 z11.w3
 (.br (decide ((0:Int)<=a11))
 (gd [decide (4<=z0),true&&inR z1,inB z1 4,decide (Int.toNat z1+0<List.length c3),decide ((0:Int)<=z2),decide ((4/1:Nat)+0<=z0),decide (4<=z6),decide (4<=List.length c0)] (.br (!z3.snd==(0:UInt64))
  (gd [z7,z8] (.ok (.inl (((),(),(),(),a11-(1:Int),[List.getD a21 0 z9,List.getD a21 1 z9],a22,()),c0,c1,z12,c3,()))))
  (.br (!z10.snd)
   (gd [z7,z8] (.ok (.inl (((),(),(),(),a11-(1:Int),[List.getD a21 0 z9,List.getD a21 1 z9],a22,()),c0,c1,z12,c3,()))))
   (gd [z8] (.ok (.inl (((),(),(),(),a11-(1:Int),[List.getD a21 0 z9,List.getD a21 1 z9],a22,()),c0,c1,z5,c3,())))))))
 (.ok (.inr ⟨(.exit 2,Ay),(((),(),(),[List.getD a21 0 z9,List.getD a21 1 z9],a22,()),c0,c1,c2,())⟩)))
def PM (s:gn):OT (Sum gn aZ):=ZL s.1.2.2.2.2.1 s.1.2.2.2.2.2.1 s.1.2.2.2.2.2.2.1 s.2.1 s.2.2.1 s.2.2.2.1 s.2.2.2.2.1
def an5 (g2_2:gn->uR) (s:gn):OT aZ:=(.ok ⟨(.exit 2,Ay),(((g2_2 s).1.1,(g2_2 s).1.2.1,(g2_2 s).1.2.2.1,s.1.2.2.2.2.2.1,s.1.2.2.2.2.2.2.1,()),(g2_2 s).2)⟩)
def CQ:aL:=⟨kZ,[],false⟩
section
variable (ok2:gn->Bool) (g2_2:gn->uR)
def TA (a0:ab) (a1:ab) (a2:ab):OT E7.Y:=
 let z0:gn:=(((),(),(),(),(255:Int),[a1,a0],(0:Int),()),[a2.w0,a2.w1,a2.w2,a2.w3],[(0:UInt64),(0:UInt64),(0:UInt64),(0:UInt64)],[(0:UInt64),(0:UInt64),(0:UInt64),(0:UInt64)],[a1.w0,a1.w1,a1.w2,a1.w3],())
 let z1:=(g2_2 z0).snd
 let z2:=z1.snd
 let z3:gn:=(((),(),(),(),(255:Int),[a1,a0],(0:Int)+(1:Int),()),z1.fst,z2.fst,z2.snd.fst,[a0.w0,a0.w1,a0.w2,a0.w3],())
 let z4:=(g2_2 z3).snd.snd
 let z5:=z4.snd.fst
 let z6:=z4.fst
 let z7:ap:=lay z6 z5 4 (0:UInt64)
 (.br (a2.w0==(0:UInt64)&&(a2.w1==(0:UInt64)&&(a2.w2==(0:UInt64)&&(a2.w3==(0:UInt64)&&true))))
 (.ok ⟨CQ,(({w0:=0,w1:=0,w2:=0,w3:=0},(10:Int),()),())⟩)
 (gd [ok2 z0,ok2 z3,decide (4<=List.length z5),decide ((4/1:Nat)+0<=List.length z6),decide (4<=List.length z7)] (.ok ⟨CQ,(({w0:=List.getD z7 0 0,w1:=List.getD z7 1 0,w2:=List.getD z7 2 0,w3:=List.getD z7 3 0},(0:Int),()),())⟩)))
theorem an4 (h2:bh PM ok2 (an5 g2_2)) (pre:an7->Bool) (F:an7->OT E7.Y) (hF:∀ (x:an7) oy,pre x=true->(F x).run=some oy->(TA ok2 g2_2 x.1.1 x.1.2.1 x.1.2.2.1).run=some oy):aa aj 163 (E7.az pre F):=
 di ET 163 Tryz.f163 E7 [CQ] (lg ET 2 aCz [(2,Ay)] none none PM bD h2 bD) (λx=>TA ok2 g2_2 x.1.1 x.1.2.1 x.1.2.2.1) hF
end
def PL (s:gn):Bool:=decide (s.1.2.2.2.2.1=255/\s.1.2.2.2.2.2.1.length=2/\s.2.1.length=4/\s.2.2.2.1.length=4/\s.2.2.2.2.1.length=4)
def ZK (s:gn):uR:=(((),(),(),s.1.2.2.2.2.2.1,s.1.2.2.2.2.2.2.1,()),s.2.1,s.2.2.1,lst (avN (elemOf s.2.1) (elemOf s.2.2.2.2.1) (elemOf s.2.2.2.1) 256),())
theorem aHM (i:Nat):Int.tdiv (i:Int) 64=((i/64:Nat):Int):=by rw [Int.tdiv_eq_ediv_of_nonneg (by omega)];omega
theorem aHN (i:Nat):Int.tmod (i:Int) 64=((i%64:Nat):Int):=by rw [Int.tmod_eq_emod_of_nonneg (by omega)];omega
theorem aCB:bh PM PL (an5 ZK):=by
 rintro ⟨⟨⟨⟩,⟨⟩,⟨⟩,⟨⟩,i,arr,j,⟨⟩⟩,⟨c0,c1,c2,c3,⟨⟩⟩⟩ h
 have h':=bm h
 dsimp only at h'
 obtain ⟨rfl,ha,h0,h2,h3⟩:=h'
 obtain ⟨x,y,rfl⟩:∃ x y,arr= [x,y]:=by
  match arr,ha with
  | [x,y],_=>exact ⟨x,y,rfl⟩
 obtain ⟨m,rfl⟩:∃ a,c0=lst a:=⟨elemOf c0,(cP h0).symm⟩
 obtain ⟨r,rfl⟩:∃ a,c2=lst a:=⟨elemOf c2,(cP h2).symm⟩
 obtain ⟨t,rfl⟩:∃ a,c3=lst a:=⟨elemOf c3,(cP h3).symm⟩
 have:=(bf (T:=PM) (λk r=>((((),(),(),(),(255:Int)-(k:Int),[x,y],j,()),lst m,c1,lst r,lst t,()):gn)) (λk r=>apD m r (MQ t (255-k)))
  (λr=>(⟨(.exit 2,Ay),(((),(),(),[x,y],j,()),lst m,c1,lst r,())⟩:aZ)) 256 r (λ_ _=>True) trivial (λk r hk _=>⟨?_,trivial⟩) (λr _=> ?_)).1
 ·obtain ⟨n,hn⟩:=this
  exact ⟨n,_,hn,rfl⟩
 ·have e0:(255:Int)-(k:Int)=((255-k:Nat):Int):=by omega
  have e1:(255:Int)-((k+1:Nat):Int)=((255-k:Nat):Int)-1:=by omega
  have hb:bE ((lst t).getD ((255-k)/64) 0) (((255-k)%64:Nat):Int)&&&1=MQ t (255-k):=rfl
  rw [e1,e0]
  show (ZL ((255-k:Nat):Int) [x,y] j (lst m) c1 (lst r) (lst t)).run=some (.inl (((),(),(),(),((255-k:Nat):Int)-1,[x,y],j,()),lst m,c1,lst (apD m r (MQ t (255-k))),lst t,()))
  unfold ZL
  simp only [aHM,aHN,cD,Nat.add_zero,hb]
  refine (OT.ak (ag (by omega))).trans ((ae ?_).trans ?_)
  ·simp only [aA,aI,aJ,Bool.true_and,aw]
   have hl:∀ a:ab,(lst a).length=4:=λ_=>rfl
   exact ⟨rfl,aS (by omega),ba (by omega),ag (by rw [hl];omega),ag (by omega),rfl,rfl,rfl⟩
  ·have hr:inR (((255-k:Nat):Int)-1)=true:=aS (by omega)
   rcases (b9 ((dr r (MQ t (255-k))).2==0)).symm with g|g
   ·have e:apD m r (MQ t (255-k))=(ng (dr r (MQ t (255-k))).1 m).1:=by unfold apD;rw [g];rfl
    rw [e]
    exact (OT.ak (b:= !((dr r (MQ t (255-k))).2==0)) (by rw [g];rfl)).trans ((ae (by rw [hr];rfl)).trans rfl)
   ·refine (OT.au (b:= !((dr r (MQ t (255-k))).2==0)) (by rw [g];rfl)).trans ?_
    rcases (b9 (ng (dr r (MQ t (255-k))).1 m).2).symm with u|u
    ·have e:apD m r (MQ t (255-k))=(ng (dr r (MQ t (255-k))).1 m).1:=by unfold apD;rw [g,u];rfl
     rw [e]
     exact (OT.ak (b:= !(ng (dr r (MQ t (255-k))).1 m).2) (by rw [u];rfl)).trans ((ae (by rw [hr];rfl)).trans rfl)
    ·have e:apD m r (MQ t (255-k))=(dr r (MQ t (255-k))).1:=by unfold apD;rw [g,u];rfl
     rw [e]
     exact (OT.au (b:= !(ng (dr r (MQ t (255-k))).1 m).2) (by rw [u];rfl)).trans ((ae (by rw [hr];rfl)).trans rfl)
 ·exact OT.au (bq (by dsimp only;omega))
def aeH (_:an7):Bool:=true
def Fv (m:ab):Bool:=m.w0==0&&(m.w1==0&&(m.w2==0&&(m.w3==0&&true)))
def aAd (x:an7):OT E7.Y:=.br (Fv x.1.2.2.1) (.ok ⟨CQ,((⟨0,0,0,0⟩,(10:Int),()),())⟩) (.ok ⟨CQ,((aFu x.1.1 x.1.2.1 x.1.2.2.1,(0:Int),()),())⟩)
theorem alz {m:ab} (h:Fv m=false):0<m.nat:=by
 refine Nat.pos_of_ne_zero λe=> ?_
 have e2:m=⟨0,0,0,0⟩:=gI e
 rw [e2] at h
 cases h
theorem an6 {ok2:gn->Bool} {g2:gn->uR} {a b m H R:ab} (h:Fv m=false)
 (h1:ok2 (((),(),(),(),255,[b,a],0,()),lst m,lst ⟨0,0,0,0⟩,lst ⟨0,0,0,0⟩,lst b,())=true)
 (e1:(g2 (((),(),(),(),255,[b,a],0,()),lst m,lst ⟨0,0,0,0⟩,lst ⟨0,0,0,0⟩,lst b,())).2=(lst m,lst ⟨0,0,0,0⟩,lst H,()))
 (h2:ok2 (((),(),(),(),255,[b,a],0+1,()),lst m,lst ⟨0,0,0,0⟩,lst H,lst a,())=true)
 (e2:(g2 (((),(),(),(),255,[b,a],0+1,()),lst m,lst ⟨0,0,0,0⟩,lst H,lst a,())).2=(lst m,lst ⟨0,0,0,0⟩,lst R,())):
 (TA ok2 g2 a b m).run=some ⟨CQ,((R,(0:Int),()),())⟩:=by
 have l:∀ e:ab,lst e= [e.w0,e.w1,e.w2,e.w3]:=λ_=>rfl
 rw [l m,l ⟨0,0,0,0⟩] at h1 e1 h2 e2
 rw [l b] at h1 e1
 rw [l a] at h2 e2
 unfold TA
 simp only [e1,h1,e2,h2]
 exact (OT.au h).trans ((ae rfl).trans rfl)
theorem aCA:aa aj 163 (E7.az aeH aAd):=an4 PL ZK aCB _ _ λx oy hp ho=>by
 rw [<-ho]
 clear ho
 obtain ⟨⟨a,b,m,⟨⟩⟩,⟨⟩⟩:=x
 show (TA PL ZK a b m).run=(OT.br (Fv m) _ _:OT E7.Y).run
 rcases (b9 (Fv m)).symm with h|h
 ·refine Eq.trans (an6 (H:=avN m b ⟨0,0,0,0⟩ 256) (R:=avN m a (avN m b ⟨0,0,0,0⟩ 256) 256) h rfl rfl rfl rfl) ?_
  rw [axh (alz h)]
  rw [h]
  rfl
 ·exact (OT.ak h).trans (OT.ak (b:=Fv m) h).symm
def Hv:bt:=(E7.az aeH aAd)
theorem ajZ:aa aj 163 Hv:=aCA
theorem ajY:ax Hv:=av
def aB0:Env:=aq 163 Hv ai2
theorem ai3:bV aj te aB0:=aU follows ET ajZ ajY
def acU:af:=⟨jK,[],true,0,false⟩
abbrev aGF:Type:=o4
def FJ:aL:=⟨[Pc,aC],[],false⟩
def aGD (a0:Int):OT acU.Y:=
 let z0:ab:= {w0:=0,w1:=0,w2:=0,w3:=0}
 let z1:UInt64×ab:=((0:UInt64),z0)
 (.br (a0==(0:Int))
 (.ok ⟨FJ,((({w0:=16513537,w1:=0,w2:=0,w3:=0},(9:Int),(16513537:UInt64),z1),(0:Int),()),())⟩)
 (.br (a0==(1:Int))
  (.ok ⟨FJ,((({w0:=16521217,w1:=0,w2:=0,w3:=0},(11:Int),(16521217:UInt64),z1),(0:Int),()),())⟩)
  (.br (a0==(2:Int))
   (.ok ⟨FJ,((({w0:=11037532056220336129,w1:=2469829653914515739,w2:=0,w3:=4611686018427387904},(32:Int),(0:UInt64),(11037532056220336127:UInt64),{w0:=10122100416058490895,w1:=15551789045973377255,w2:=8617542898466512152,w3:=679271340751763220}),(0:Int),()),())⟩)
   (.br (a0==(3:Int))
    (.ok ⟨FJ,((({w0:=10108024940646105089,w1:=2469829653919213789,w2:=0,w3:=4611686018427387904},(32:Int),(0:UInt64),(10108024940646105087:UInt64),{w0:=18200867980676431887,w1:=7474641938123724515,w2:=9200329640471491984,w3:=679271340771891881}),(0:Int),()),())⟩)
    (.ok ⟨FJ,(((z0,(0:Int),(0:UInt64),z1),(20:Int),()),())⟩)))))
theorem ayO (pre:aGF->Bool) (F:aGF->OT acU.Y) (hF:∀ (x:aGF) oy,pre x=true->(F x).run=some oy->(aGD x.1.1).run=some oy):aa aj 82 (acU.az pre F):=
 di ai3 82 Tryz.f82 acU [FJ] bD (λx=>aGD x.1.1) hF
abbrev MX:Type:=iW
def aGh:MX:=(⟨0,0,0,0⟩,0,0,0,⟨0,0,0,0⟩)
def bB:Nat->MX
 |0=>(⟨16513537,0,0,0⟩,9,16513537,0,⟨0,0,0,0⟩)
 |1=>(⟨16521217,0,0,0⟩,11,16521217,0,⟨0,0,0,0⟩)
 |2=>(⟨11037532056220336129,2469829653914515739,0,4611686018427387904⟩,32,0,11037532056220336127,⟨10122100416058490895,15551789045973377255,8617542898466512152,679271340751763220⟩)
 |3=>(⟨10108024940646105089,2469829653919213789,0,4611686018427387904⟩,32,0,10108024940646105087,⟨18200867980676431887,7474641938123724515,9200329640471491984,679271340771891881⟩)
 |_=>aGh
def ac (s:Int):Bool:=decide (0<=s)&&decide (s<4)
theorem cb {s:Int} (h:ac s=true):s=0\/s=1\/s=2\/s=3:=by
 simp only [ac,aw,decide_eq_true_eq] at h
 omega
theorem Nd {s:Int} (h:ac s=false):(s==0)=false/\(s==1)=false/\(s==2)=false/\(s==3)=false:=by
 have hn:∀ k:Int,0<=k->k<4->(s==k)=false:=λk h0 h1=>by
  cases hb:s==k
  ·rfl
  ·have:s=k:=by simpa using hb
   subst this
   simp only [ac,ag h0,ag h1,Bool.and_self] at h
   cases h
 exact ⟨hn 0 (by decide) (by decide),hn 1 (by decide) (by decide),hn 2 (by decide) (by decide),hn 3 (by decide) (by decide)⟩
def ash (_:aGF):Bool:=true
def aGE (x:aGF):OT acU.Y:=.br (ac x.1.1) (.ok ⟨FJ,((bB x.1.1.toNat,(0:Int),()),())⟩) (.ok ⟨FJ,((aGh,(20:Int),()),())⟩)
theorem aGC:aa aj 82 (acU.az ash aGE):=ayO _ _ λx oy _ ho=>by
 rw [<-ho]
 clear ho
 obtain ⟨⟨s,⟨⟩⟩,⟨⟩⟩:=x
 cases hs:ac s
 ·obtain ⟨h0,h1,h2,h3⟩:=Nd hs
  exact (OT.au h0).trans ((OT.au h1).trans ((OT.au h2).trans ((OT.au h3).trans (OT.au (b:=ac s) hs).symm)))
 ·rcases cb hs with h|h|h|h
  all_goals
   have h:s=_:=h
   subst h
   rfl
def R0:bt:=(acU.az ash aGE)
theorem asi:aa aj 82 R0:=aGC
theorem asg:ax R0:=av
def aHb:Env:=aq 82 R0 aB0
theorem avr:bV aj te aHb:=aU follows ai3 asi asg
def KF:af:=⟨jK,[],true,0,false⟩
abbrev asw:Type:=o4
def KE:aL:=⟨kZ,[],false⟩
def aA9 (a0:Int):OT KF.Y:=
 (.br (ac a0)
 (.ok ⟨KE,(((bB (Int.toNat a0)).fst,(0:Int),()),())⟩)
 (.ok ⟨KE,(({w0:=0,w1:=0,w2:=0,w3:=0},(20:Int),()),())⟩))
theorem asv (pre:asw->Bool) (F:asw->OT KF.Y) (hF:∀ (x:asw) oy,pre x=true->(F x).run=some oy->(aA9 x.1.1).run=some oy):aa aj 77 (KF.az pre F):=
 di avr 77 Tryz.f77 KF [KE] bD (λx=>aA9 x.1.1) hF
def ahz (_:asw):Bool:=true
def aBa (x:asw):OT KF.Y:=.br (ac x.1.1) (.ok ⟨KE,(((bB x.1.1.toNat).1,(0:Int),()),())⟩) (.ok ⟨KE,((⟨0,0,0,0⟩,(20:Int),()),())⟩)
theorem aEx:aa aj 77 (KF.az ahz aBa):=asv _ _ λx oy _ ho=>ho
def KD:bt:=(KF.az ahz aBa)
theorem amI:aa aj 77 KD:=aEx
theorem amH:ax KD:=av
def aCi:Env:=aq 77 KD aHb
theorem Ho:bV aj te aCi:=aU follows avr amI amH
def BR:af:=⟨[Pc,dw],[],true,0,false⟩
abbrev asc:Type:=(iW×o3)×Unit
def aEp:Shape:=⟨53,[Cw,(3,ir),(4,fE),(5,aQ),(6,aC)],aet,0,true⟩
abbrev jx:Type:=aiM×MV×Af
def BQ:Shape:=⟨53,[eD,(5,aQ)],[iI],0,true⟩
abbrev vU:Type:=(Unit×m4)×uA
def aEu (a5:UInt64) (a6:Int) (c0_0:UInt64) (c0_1:UInt64) (c0_2:UInt64) (c0_3:UInt64) (c0_4:Int) (c0_5:UInt64) (c0_6:UInt64) (c0_7:UInt64) (c0_8:UInt64) (c0_9:UInt64) (c0_10:UInt64) (c1:ap) (c2:ap):OT (Sum jx aZ):=
 let z0:UInt64:=List.getD c1 (Int.toNat a6+0) (0:UInt64)
 (.br (decide ((0:Int)<=a6))
 (gd [inB a6 4,decide (Int.toNat a6+0<List.length c1),wo ((a5,z0,c0_5,()),()),inR (a6-(1:Int))] (.ok (.inl (((),(),(),adC a5 z0 c0_5,a6-(1:Int),()),(c0_0,c0_1,c0_2,c0_3,c0_4,c0_5,c0_6,c0_7,c0_8,c0_9,c0_10,()),c1,c2,()))))
 (.ok (.inr ⟨(.exit 0,BQ),(((),a5,()),c2,())⟩)))
def RY (s:jx):OT (Sum jx aZ):=aEu s.1.2.2.2.1 s.1.2.2.2.2.1 s.2.1.1 s.2.1.2.1 s.2.1.2.2.1 s.2.1.2.2.2.1 s.2.1.2.2.2.2.1 s.2.1.2.2.2.2.2.1 s.2.1.2.2.2.2.2.2.1 s.2.1.2.2.2.2.2.2.2.1 s.2.1.2.2.2.2.2.2.2.2.1 s.2.1.2.2.2.2.2.2.2.2.2.1 s.2.1.2.2.2.2.2.2.2.2.2.2.1 s.2.2.1 s.2.2.2.1
def asb (g0_0:jx->vU) (s:jx):OT aZ:=(.ok ⟨(.exit 0,BQ),g0_0 s⟩)
def aEo:Shape:=⟨53,[Cw,(3,ir),(4,fE)],aet,0,true⟩
abbrev jw:Type:=nW×MV×Af
def tN:Shape:=⟨53,[eD],[iI],0,true⟩
abbrev Ed:Type:=ct×uA
def aEt (c0_0:UInt64) (c0_1:UInt64) (c0_2:UInt64) (c0_3:UInt64) (c0_4:Int) (c0_5:UInt64) (c0_6:UInt64) (c0_7:UInt64) (c0_8:UInt64) (c0_9:UInt64) (c0_10:UInt64) (c1:ap) (c2:ap):OT (Sum jw aZ):=
 let z0:Nat:=List.length c1
 let z1:Bool:=decide (4<=z0)
 let z2:ab×Bool:=ng {w0:=List.getD c1 0 0,w1:=List.getD c1 1 0,w2:=List.getD c1 2 0,w3:=List.getD c1 3 0} {w0:=c0_0,w1:=c0_1,w2:=c0_2,w3:=c0_3}
 let z3:=z2.fst
 (gd [z1] (.br (z2.snd)
 (gd [z1,decide ((4/1:Nat)+0<=List.length c2)] (.ok (.inr ⟨(.ret,tN),(((),()),lay c2 c1 4 (0:UInt64),())⟩)))
 (gd [decide ((4/1:Nat)+0<=z0)] (.ok (.inl (((),(),(),()),(c0_0,c0_1,c0_2,c0_3,c0_4,c0_5,c0_6,c0_7,c0_8,c0_9,c0_10,()),List.set (List.set (List.set (List.set c1 0 z3.w0) 1 z3.w1) 2 z3.w2) 3 z3.w3,c2,()))))))
def RX (s:jw):OT (Sum jw aZ):=aEt s.2.1.1 s.2.1.2.1 s.2.1.2.2.1 s.2.1.2.2.2.1 s.2.1.2.2.2.2.1 s.2.1.2.2.2.2.2.1 s.2.1.2.2.2.2.2.2.1 s.2.1.2.2.2.2.2.2.2.1 s.2.1.2.2.2.2.2.2.2.2.1 s.2.1.2.2.2.2.2.2.2.2.2.1 s.2.1.2.2.2.2.2.2.2.2.2.2.1 s.2.2.1 s.2.2.2.1
def asa (g2_r:jw->Ed) (s:jw):OT aZ:=(.ok ⟨(.ret,tN),g2_r s⟩)
def qB:aL:=⟨iq,[],false⟩
section
variable (ok0:jx->Bool) (g0_0:jx->vU) (ok2:jw->Bool) (g2_r:jw->Ed)
def Ok (a0:iW) (a1:ab):OT BR.Y:=
 let z0:Bool:= !a0.snd.snd.fst==(0:UInt64)
 let z1:(UInt64×UInt64×UInt64×UInt64×Int×aBE)×ap×ap×PUnit:=((a0.fst.w0,a0.fst.w1,a0.fst.w2,a0.fst.w3,a0.snd.fst,a0.snd.snd.fst,a0.snd.snd.snd.fst,a0.snd.snd.snd.snd.w0,a0.snd.snd.snd.snd.w1,a0.snd.snd.snd.snd.w2,a0.snd.snd.snd.snd.w3,()),[a1.w0,a1.w1,a1.w2,a1.w3],[(0:UInt64),(0:UInt64),(0:UInt64),(0:UInt64)],())
 let z2:jx:=(((),(),(),(0:UInt64),(3:Int),()),z1)
 let z3:vU:=g0_0 z2
 let z4:=z3.snd.fst
 let z5:ap:=List.set (List.set (List.set (List.set z4 0 z3.fst.snd.fst) 1 (0:UInt64)) 2 (0:UInt64)) 3 (0:UInt64)
 let z6:jw:=(((),(),(),()),z1)
 let z7:=(g2_r z6).snd.fst
 (.br (z0)
 (.br (a1.w1|||a1.w2|||a1.w3==(0:UInt64))
  (gd [z0] (.ok ⟨qB,(({w0:=a1.w0%a0.snd.snd.fst,w1:=0,w2:=0,w3:=0},()),())⟩))
  (gd [ok0 z2,decide ((4/1:Nat)+0<=List.length z4),decide (4<=List.length z5)] (.ok ⟨qB,(({w0:=List.getD z5 0 0,w1:=List.getD z5 1 0,w2:=List.getD z5 2 0,w3:=List.getD z5 3 0},()),())⟩)))
 (gd [ok2 z6,decide (4<=List.length z7)] (.ok ⟨qB,(({w0:=List.getD z7 0 0,w1:=List.getD z7 1 0,w2:=List.getD z7 2 0,w3:=List.getD z7 3 0},()),())⟩)))
theorem ar9 (h0:bh RY ok0 (asb g0_0)) (h2:bh RX ok2 (asa g2_r)) (pre:asc->Bool) (F:asc->OT BR.Y) (hF:∀ (x:asc) oy,pre x=true->(F x).run=some oy->(Ok ok0 g0_0 ok2 g2_r x.1.1 x.1.2.1).run=some oy):aa aj 117 (BR.az pre F):=
 di Ho 117 Tryz.f117 BR [qB] (lg Ho 2 aEo [] (some tN) none RX bD h2 (lg Ho 0 aEp [(0,BQ)] none none RY bD h0 bD)) (λx=>Ok ok0 g0_0 ok2 g2_r x.1.1 x.1.2.1) hF
end
def lk (n:MX):Bool:=decide (n=bB 0)||(decide (n=bB 1)||(decide (n=bB 2)||decide (n=bB 3)))
theorem yF {n:MX} (h:lk n=true):n=bB 0\/n=bB 1\/n=bB 2\/n=bB 3:=by
 simpa [lk] using h
theorem jm {s:Int} (h:ac s=true):lk (bB s.toNat)=true:=by
 rcases cb h with rfl|rfl|rfl|rfl<;>decide+kernel
def aHO (c:ap) (m:UInt64):UInt64:=upto (λk r=>adC r (c.getD (3-k) 0) m) 0 4
theorem AV {m:UInt64} (h:jq m=true):0<m.toNat:=by
 rcases ij h with rfl|rfl<;>decide
theorem axg {a:ab} {m:UInt64} (h:jq m=true):aHO (lst a) m=UInt64.ofNat (a.nat%m.toNat):=by
 have hm:=AV h
 rw [<-rI,dA,bn (b:=2^64) (Nat.lt_trans (Nat.mod_lt _ hm) m.toNat_lt)]
 show (adC (adC (adC (adC 0 a.w3 m) a.w2 m) a.w1 m) a.w0 m).toNat=_
 rw [B7 hm,B7 hm,B7 hm,B7 hm,Q4 _ a.w2.toNat,Q4 _ a.w1.toNat,Q4 _ a.w0.toNat,show (0:UInt64).toNat=0 from rfl]
 congr 1
 unfold Sx.ab.nat
 omega
def BP (s:jx):Bool:=decide (s.1.2.2.2.1=0/\s.1.2.2.2.2.1=3/\s.2.2.1.length=4)&&jq s.2.1.2.2.2.2.2.1
def RW (s:jx):vU:=(((),aHO s.2.2.1 s.2.1.2.2.2.2.2.1,()),s.2.2.2.1,())
theorem aEs:bh RY BP (asb RW):=by
 rintro ⟨⟨⟨⟩,⟨⟩,⟨⟩,r,i,⟨⟩⟩,⟨⟨x0,x1,x2,x3,x4,sm,x6,x7,x8,x9,x10,⟨⟩⟩,c1,c2,⟨⟩⟩⟩ h
 simp only [BP,aw,decide_eq_true_eq] at h
 obtain ⟨⟨rfl,rfl,hl⟩,hs⟩:=h
 have hm:=AV hs
 have:=(bf (T:=RY) (λk r=>((((),(),(),r,3-(k:Int),()),(x0,x1,x2,x3,x4,sm,x6,x7,x8,x9,x10,()),c1,c2,()):jx)) (λk r=>adC r (c1.getD (3-k) 0) sm)
  (λr=>(⟨(.exit 0,BQ),(((),r,()),c2,())⟩:aZ)) 4 0 (λ_ r=>r.toNat<sm.toNat) hm (λk r hk hr=>⟨?_,?_⟩) (λr hr=> ?_)).1
 ·obtain ⟨m,hm⟩:=this
  exact ⟨m,_,hm,rfl⟩
 ·have e1:(3-(k:Int)).toNat=3-k:=by omega
  have e2:(3:Int)-(k:Int)-1=3-((k+1:Nat):Int):=by omega
  refine (OT.ak (ag (by dsimp only;omega))).trans ((ae ?_).trans ?_)
  ·simp only [e1,Nat.add_zero,hl,aA,aI,aJ,aw]
   refine ⟨ba (by omega),ag (by omega),?_,aS (by omega)⟩
   simp only [wo,aw]
   exact ⟨hs,ag (UInt64.lt_iff_toNat_lt.2 hr)⟩
  ·simp only [OT.jf,e1,e2,Nat.add_zero]
 ·rw [B7 hm]
  exact Nat.mod_lt _ hm
 ·exact OT.au (bq (by dsimp only;omega))
def aIm (s:jw):ab:=⟨s.2.1.1,s.2.1.2.1,s.2.1.2.2.1,s.2.1.2.2.2.1⟩
def G8 (s:jw):Bool:=decide (s.2.2.1.length=4/\s.2.2.2.1.length=4/\0<(aIm s).nat)
def RV (s:jw):Ed:=(((),()),lst (ofN ((elemOf s.2.2.1).nat%(aIm s).nat)),())
theorem amv {x0 x1 x2 x3 x5 x6 x7 x8 x9 x10:UInt64} {x4:Int} {c2:List UInt64} (hc:c2.length=4) (hm:0<(ab.mk x0 x1 x2 x3).nat):∀ (n:Nat) (a:ab),a.nat=n->
 ∃ m,cW RX m (((),(),(),()),(x0,x1,x2,x3,x4,x5,x6,x7,x8,x9,x10,()),lst a,c2,())=some ⟨(.ret,tN),(((),()),lst (ofN (a.nat%(ab.mk x0 x1 x2 x3).nat)),())⟩:=by
 intro n
 induction n using Nat.strongRecOn with
 |_ n ih=>
  intro a hn
  cases hb:Nat.blt a.nat (ab.mk x0 x1 x2 x3).nat
  ·have hle:(ab.mk x0 x1 x2 x3).nat<=a.nat:=by
    rcases Nat.lt_or_ge a.nat (ab.mk x0 x1 x2 x3).nat with h|h
    ·have:Nat.blt a.nat (ab.mk x0 x1 x2 x3).nat=true:=jW h
     rw [this] at hb;cases hb
    ·exact h
   have hd:=AA hle
   obtain ⟨m,hm2⟩:=ih (a.nat-(ab.mk x0 x1 x2 x3).nat) (by omega) (ng a ⟨x0,x1,x2,x3⟩).1 hd
   rw [hd,<-Nat.mod_eq_sub_mod hle] at hm2
   refine ⟨m+1,bN ?_ hm2⟩
   refine (ae ?_).trans ((OT.au hb).trans ((ae ?_).trans rfl))
   ·rfl
   ·rfl
  ·have hlt:=dK hb
   rw [bn hlt,Bi]
   refine ⟨1,aV ?_⟩
   refine (ae ?_).trans ((OT.ak hb).trans ((ae ?_).trans ?_))
   ·rfl
   ·simp only [hc,aA,aI,aJ,aw]
    exact ⟨rfl,rfl⟩
   ·show some (Sum.inr (⟨(.ret,tN),(((),()),lay c2 (lst a) 4 0,())⟩:aZ))=_
    rw [VQ hc (NU a)]
theorem aEr:bh RX G8 (asa RV):=by
 rintro ⟨⟨⟨⟩,⟨⟩,⟨⟩,⟨⟩⟩,⟨⟨x0,x1,x2,x3,x4,x5,x6,x7,x8,x9,x10,⟨⟩⟩,c1,c2,⟨⟩⟩⟩ h
 have h':=bm h
 dsimp only [aIm] at h'
 obtain ⟨h1,h2,h3⟩:=h'
 obtain ⟨m,hm⟩:=amv (x4:=x4) (x5:=x5) (x6:=x6) (x7:=x7) (x8:=x8) (x9:=x9) (x10:=x10) h2 h3 _ (elemOf c1) rfl
 rw [cP h1] at hm
 exact ⟨m,_,hm,rfl⟩
def il (x:asc):Bool:=lk x.1.1
def aA3 (x:asc):OT BR.Y:=.ok ⟨qB,((ofN (x.1.2.1.nat%x.1.1.1.nat),()),())⟩
theorem Vx {n:Nat} (h:n<18446744073709551616):ofN n=⟨UInt64.ofNat n,0,0,0⟩:=by
 refine aql (k:=0) ?_
 rw [dA,bn (by omega)]
 simp
theorem Kx {n:MX} {a:ab} {m:UInt64} (h1:n.1=⟨m,0,0,0⟩) (h2:n.2.2.1=m) (hs:jq m=true):(Ok BP RW G8 RV n a).run=some ⟨qB,((ofN (a.nat%n.1.nat),()),())⟩:=by
 have hm:=AV hs
 have hn:n.1.nat=m.toNat:=by rw [h1];show m.toNat+_*(0+_*(0+_*0))=_;omega
 have hz:(!(n.2.2.1==0))=true:=by
  rw [h2]
  rcases ij hs with rfl|rfl<;>rfl
 have hlt:a.nat%m.toNat<18446744073709551616:=Nat.lt_trans (Nat.mod_lt _ hm) m.toNat_lt
 rw [hn,Vx hlt]
 unfold Ok
 refine (OT.ak hz).trans ?_
 cases hb:(a.w1|||a.w2|||a.w3==0)
 ·refine (OT.au rfl).trans ((ae ?_).trans ?_)
  ·simp only [aA,aI,aJ,aw]
   refine ⟨?_,rfl,rfl⟩
   show (decide _&&jq n.2.2.1)=true
   rw [h2,hs,aJ]
   exact ag ⟨rfl,rfl,rfl⟩
  ·show some (⟨qB,((⟨aHO (lst a) n.2.2.1,0,0,0⟩,()),())⟩:BR.Y)=_
   rw [h2,axg hs]
 ·refine (OT.ak rfl).trans ((ae ?_).trans ?_)
  ·simp only [hz,aA,aI,aJ]
  ·have hw:a.w1=0/\a.w2=0/\a.w3=0:=by
    have:a.w1|||a.w2|||a.w3=0:=by simpa using hb
    simpa [UInt64.or_eq_zero_iff,and_assoc] using this
   have ha:a.nat=a.w0.toNat:=by
    unfold Sx.ab.nat
    rw [hw.1,hw.2.1,hw.2.2]
    show _+_*(0+_*(0+_*0))=_
    omega
   show some (⟨qB,((⟨a.w0%n.2.2.1,0,0,0⟩,()),())⟩:BR.Y)=_
   have e:a.w0%n.2.2.1=UInt64.ofNat (a.nat%m.toNat):=by
    rw [h2,ha,<-rI,UInt64.toNat_mod,dA]
    exact (bn (by rw [<-ha];omega)).symm
   rw [e]
theorem Oj {n:MX} {a:ab} (h2:n.2.2.1=0) (hs:0<n.1.nat):(Ok BP RW G8 RV n a).run=some ⟨qB,((ofN (a.nat%n.1.nat),()),())⟩:=by
 unfold Ok
 refine (OT.au (by rw [h2];rfl)).trans ((ae ?_).trans ?_)
 ·simp only [aA,aI,aJ,aw]
  exact ⟨ag ⟨rfl,rfl,hs⟩,rfl⟩
 ·rfl
theorem aIM:0<(bB 2).1.nat:=by decide+kernel
theorem aIL:0<(bB 3).1.nat:=by decide+kernel
theorem aEq:aa aj 117 (BR.az il aA3):=ar9 BP RW G8 RV aEs aEr _ _ λx oy hp ho=>by
 rw [<-ho]
 clear ho
 obtain ⟨⟨n,a,⟨⟩⟩,⟨⟩⟩:=x
 have hp':lk n=true:=hp
 rcases yF hp' with rfl|rfl|rfl|rfl
 ·exact Kx (m:=16513537) rfl rfl rfl
 ·exact Kx (m:=16521217) rfl rfl rfl
 ·exact Oj rfl aIM
 ·exact Oj rfl aIL
def Kw:bt:=(BR.az il aA3)
theorem amw:aa aj 117 Kw:=aEq
theorem amu:ax Kw:=av
def aCf:Env:=aq 117 Kw aCi
theorem aju:bV aj te aCf:=aU follows Ho amw amu
def zD:af:=⟨[Pc,dw,dw],[],true,0,false⟩
abbrev Xq:Type:=(iW×xo)×Unit
def Si:aL:=⟨iq,[],false⟩
def asO (a0:iW) (a1:ab) (a2:ab):OT zD.Y:=
 let z0:Nat:=ab.nat a0.fst
 let z1:ab:=(Tp (ofN (ab.nat a1%z0)) (ofN (ab.nat a2%z0))).fst
 (gd [il ((a0,a1,()),()),il ((a0,a2,()),()),il ((a0,z1,()),())] (.ok ⟨Si,((ofN (ab.nat z1%z0),()),())⟩))
theorem amY (pre:Xq->Bool) (F:Xq->OT zD.Y) (hF:∀ (x:Xq) oy,pre x=true->(F x).run=some oy->(asO x.1.1 x.1.2.1 x.1.2.2.1).run=some oy):aa aj 83 (zD.az pre F):=
 di aju 83 Tryz.f83 zD [Si] bD (λx=>asO x.1.1 x.1.2.1 x.1.2.2.1) hF
theorem Bj {n:MX} (h:lk n=true):0<n.1.nat/\n.1.nat<57896044618658097711785492504343953926634992332820282019728792003956564819968:=by
 rcases yF h with rfl|rfl|rfl|rfl
 ·exact ⟨by decide+kernel,by decide+kernel⟩
 ·exact ⟨by decide+kernel,by decide+kernel⟩
 ·exact ⟨by decide+kernel,by decide+kernel⟩
 ·exact ⟨by decide+kernel,by decide+kernel⟩
def pS (s:Int):Nat:=(bB s.toNat).1.nat
theorem eP {s:Int} (h:ac s=true):0<pS s/\pS s<57896044618658097711785492504343953926634992332820282019728792003956564819968:=Bj (jm h)
def dv (p:Nat) (a b:ab):ab:=ofN ((a.nat+b.nat)%p)
def lf (p:Nat) (a:ab):ab:=ofN ((p-a.nat%p)%p)
def aR (p:Nat) (a b:ab):ab:=ofN (a.nat*b.nat%p)
theorem cv {p n:Nat} (h:0<p/\p<57896044618658097711785492504343953926634992332820282019728792003956564819968):(ofN (n%p)).nat=n%p:=by
 have:=Nat.mod_lt n h.1
 exact oc (by omega)
theorem aFn {p:Nat} (h:0<p/\p<57896044618658097711785492504343953926634992332820282019728792003956564819968) (a b:ab):ofN ((Tp (ofN (a.nat%p)) (ofN (b.nat%p))).1.nat%p)=dv p a b:=by
 have ha:=Nat.mod_lt a.nat h.1
 have hb:=Nat.mod_lt b.nat h.1
 have e:(Tp (ofN (a.nat%p)) (ofN (b.nat%p))).1.nat=a.nat%p+b.nat%p:=by
  show (ofN _).nat=_
  rw [cv h,cv h]
  exact oc (by omega)
 unfold dv
 rw [e,<-Nat.add_mod]
def KP (x:Xq):Bool:=lk x.1.1
def ads (x:Xq):OT zD.Y:=.ok ⟨Si,((dv x.1.1.1.nat x.1.2.1 x.1.2.2.1,()),())⟩
theorem ay4:aa aj 83 (zD.az KP ads):=amY _ _ λx oy hp ho=>by
 rw [<-ho]
 clear ho
 obtain ⟨⟨n,a,b,⟨⟩⟩,⟨⟩⟩:=x
 have hp':lk n=true:=hp
 refine (ae ?_).trans ?_
 ·simp only [aA,aI,aJ,aw]
  exact ⟨hp',hp',hp'⟩
 ·simp only [ads,aFn (Bj hp')]
def Eu:bt:=(zD.az KP ads)
theorem adr:aa aj 83 Eu:=ay4
theorem adq:ax Eu:=av
def avE:Env:=aq 83 Eu aCf
theorem Zx:bV aj te avE:=aU follows aju adr adq
def zA:af:=⟨[Pc,dw],[],true,0,false⟩
abbrev Xb:Type:=(iW×o3)×Unit
def R6:aL:=⟨iq,[],false⟩
def aso (a0:iW) (a1:ab):OT zA.Y:=
 let z0:Nat:=ab.nat a0.fst
 let z1:ab:=(ng a0.fst (ofN (ab.nat a1%z0))).fst
 (gd [il ((a0,a1,()),()),il ((a0,z1,()),())] (.ok ⟨R6,((ofN (ab.nat z1%z0),()),())⟩))
theorem amD (pre:Xb->Bool) (F:Xb->OT zA.Y) (hF:∀ (x:Xb) oy,pre x=true->(F x).run=some oy->(aso x.1.1 x.1.2.1).run=some oy):aa aj 116 (zA.az pre F):=
 di Zx 116 Tryz.f116 zA [R6] bD (λx=>aso x.1.1 x.1.2.1) hF
theorem aDX {m:ab} (h:0<m.nat/\m.nat<57896044618658097711785492504343953926634992332820282019728792003956564819968) (a:ab):ofN ((ng m (ofN (a.nat%m.nat))).1.nat%m.nat)=lf m.nat a:=by
 have ha:=Nat.mod_lt a.nat h.1
 have e:=cv (n:=a.nat) h
 have e2:(ng m (ofN (a.nat%m.nat))).1.nat=m.nat-a.nat%m.nat:=by
  rw [AA (by rw [e];omega),e]
 unfold lf
 rw [e2]
def BX (x:Xb):Bool:=lk x.1.1
def ac0 (x:Xb):OT zA.Y:=.ok ⟨R6,((lf x.1.1.1.nat x.1.2.1,()),())⟩
theorem ayQ:aa aj 116 (zA.az BX ac0):=amD _ _ λx oy hp ho=>by
 rw [<-ho]
 clear ho
 obtain ⟨⟨n,a,⟨⟩⟩,⟨⟩⟩:=x
 have hp':lk n=true:=hp
 refine (ae ?_).trans ?_
 ·simp only [aA,aI,aJ,aw]
  exact ⟨hp',hp'⟩
 ·simp only [ac0,aDX (Bj hp')]
def Eg:bt:=(zA.az BX ac0)
theorem acZ:aa aj 116 Eg:=ayQ
theorem acY:ax Eg:=av
def avu:Env:=aq 116 Eg avE
theorem Zr:bV aj te avu:=aU follows Zx acZ acY
def xk:af:=⟨L3,[],true,0,false⟩
abbrev adp:Type:=LW
def Et:aL:=⟨iq,[],false⟩
def aBf (a0:Int) (a1:ab) (a2:ab):OT xk.Y:=
 let z0:iW:=bB (Int.toNat a0)
 (.br (ac a0)
 (gd [KP ((z0,a1,a2,()),())] (.ok ⟨Et,((dv (ab.nat z0.fst) a1 a2,()),())⟩))
 (.ok ⟨Et,(({w0:=0,w1:=0,w2:=0,w3:=0},()),())⟩))
theorem asN (pre:adp->Bool) (F:adp->OT xk.Y) (hF:∀ (x:adp) oy,pre x=true->(F x).run=some oy->(aBf x.1.1 x.1.2.1 x.1.2.2.1).run=some oy):aa aj 29 (xk.az pre F):=
 di Zr 29 Tryz.f29 xk [Et] bD (λx=>aBf x.1.1 x.1.2.1 x.1.2.2.1) hF
def ahG (_:adp):Bool:=true
def aBg (x:adp):OT xk.Y:=.br (ac x.1.1) (.ok ⟨Et,((dv (pS x.1.1) x.1.2.1 x.1.2.2.1,()),())⟩) (.ok ⟨Et,((⟨0,0,0,0⟩,()),())⟩)
theorem asM:aa aj 29 (xk.az ahG aBg):=asN _ _ λx oy hp ho=>by
 rw [<-ho]
 clear ho
 obtain ⟨⟨s,a,b,⟨⟩⟩,⟨⟩⟩:=x
 cases hs:ac s
 ·exact (OT.au hs).trans (OT.au (b:=ac s) hs).symm
 ·refine (OT.ak hs).trans ((ae ?_).trans (OT.ak (b:=ac s) hs).symm)
  simp only [aA,aI,aJ]
  exact jm hs
def KO:bt:=(xk.az ahG aBg)
theorem amX:aa aj 29 KO:=asM
theorem amW:ax KO:=av
def aCl:Env:=aq 29 KO avu
theorem ajz:bV aj te aCl:=aU follows Zr amX amW
def xf:af:=⟨[aC,dw],[],true,0,false⟩
abbrev acX:Type:=aiF
def Ef:aL:=⟨iq,[],false⟩
def aA4 (a0:Int) (a1:ab):OT xf.Y:=
 let z0:iW:=bB (Int.toNat a0)
 (.br (ac a0)
 (gd [BX ((z0,a1,()),())] (.ok ⟨Ef,((lf (ab.nat z0.fst) a1,()),())⟩))
 (.ok ⟨Ef,(({w0:=0,w1:=0,w2:=0,w3:=0},()),())⟩))
theorem asn (pre:acX->Bool) (F:acX->OT xf.Y) (hF:∀ (x:acX) oy,pre x=true->(F x).run=some oy->(aA4 x.1.1 x.1.2.1).run=some oy):aa aj 67 (xf.az pre F):=
 di ajz 67 Tryz.f67 xf [Ef] bD (λx=>aA4 x.1.1 x.1.2.1) hF
def ahw (_:acX):Bool:=true
def aA5 (x:acX):OT xf.Y:=.br (ac x.1.1) (.ok ⟨Ef,((lf (pS x.1.1) x.1.2.1,()),())⟩) (.ok ⟨Ef,((⟨0,0,0,0⟩,()),())⟩)
theorem asm:aa aj 67 (xf.az ahw aA5):=asn _ _ λx oy hp ho=>by
 rw [<-ho]
 clear ho
 obtain ⟨⟨s,a,⟨⟩⟩,⟨⟩⟩:=x
 cases hs:ac s
 ·exact (OT.au hs).trans (OT.au (b:=ac s) hs).symm
 ·refine (OT.ak hs).trans ((ae ?_).trans (OT.ak (b:=ac s) hs).symm)
  simp only [aA,aI,aJ]
  exact jm hs
def KA:bt:=(xf.az ahw aA5)
theorem amC:aa aj 67 KA:=asm
theorem amB:ax KA:=av
def aCg:Env:=aq 67 KA aCl
theorem ajv:bV aj te aCg:=aU follows ajz amC amB
def xe:af:=⟨L3,[],true,0,false⟩
abbrev acN:Type:=LW
def tD:aL:=⟨iq,[],false⟩
def aA1 (a0:Int) (a1:ab) (a2:ab):OT xe.Y:=
 let z0:Bool:=ac a0
 let z1:Nat:=pS a0
 let z2:ab:= {w0:=0,w1:=0,w2:=0,w3:=0}
 (.br (z0)
 (.br (z0)
  (.ok ⟨tD,((dv z1 a1 (lf z1 a2),()),())⟩)
  (.ok ⟨tD,((z2,()),())⟩))
 (.br (z0)
  (.ok ⟨tD,((dv z1 a1 z2,()),())⟩)
  (.ok ⟨tD,((z2,()),())⟩)))
theorem ar5 (pre:acN->Bool) (F:acN->OT xe.Y) (hF:∀ (x:acN) oy,pre x=true->(F x).run=some oy->(aA1 x.1.1 x.1.2.1 x.1.2.2.1).run=some oy):aa aj 91 (xe.az pre F):=
 di ajv 91 Tryz.f91 xe [tD] bD (λx=>aA1 x.1.1 x.1.2.1 x.1.2.2.1) hF
def iw (p:Nat) (a b:ab):ab:=dv p a (lf p b)
def aho (_:acN):Bool:=true
def aA2 (x:acN):OT xe.Y:=.br (ac x.1.1) (.ok ⟨tD,((iw (pS x.1.1) x.1.2.1 x.1.2.2.1,()),())⟩) (.ok ⟨tD,((⟨0,0,0,0⟩,()),())⟩)
theorem ar4:aa aj 91 (xe.az aho aA2):=ar5 _ _ λx oy hp ho=>by
 rw [<-ho]
 clear ho
 obtain ⟨⟨s,a,b,⟨⟩⟩,⟨⟩⟩:=x
 cases hs:ac s
 ·exact (OT.au hs).trans ((OT.au hs).trans (OT.au (b:=ac s) hs).symm)
 ·exact (OT.ak hs).trans ((OT.ak hs).trans (OT.ak (b:=ac s) hs).symm)
def Ko:bt:=(xe.az aho aA2)
theorem amo:aa aj 91 Ko:=ar4
theorem amn:ax Ko:=av
def aCe:Env:=aq 91 Ko aCg
theorem Tk:bV aj te aCe:=aU follows ajv amo amn
def l6 (n:Nat):List UInt64:= [UInt64.ofNat n,UInt64.ofNat (n/18446744073709551616),UInt64.ofNat (n/18446744073709551616/18446744073709551616),UInt64.ofNat (n/18446744073709551616/18446744073709551616/18446744073709551616),
 UInt64.ofNat (n/18446744073709551616/18446744073709551616/18446744073709551616/18446744073709551616),UInt64.ofNat (n/18446744073709551616/18446744073709551616/18446744073709551616/18446744073709551616/18446744073709551616)]
def v6 (l:List UInt64):Nat:=(l.getD 0 0).toNat+18446744073709551616*((l.getD 1 0).toNat+18446744073709551616*((l.getD 2 0).toNat+18446744073709551616*((l.getD 3 0).toNat+18446744073709551616*((l.getD 4 0).toNat+18446744073709551616*(l.getD 5 0).toNat))))
theorem iR {m:Nat} {x:UInt64} (hm:m%18446744073709551616=x.toNat):UInt64.ofNat m=x:=by
 rw [<-rI,dA]
 exact hm
theorem aH7 {n:Nat} {a b c d e:UInt64} {k:Nat} {f:UInt64} (h:n=a.toNat+18446744073709551616*(b.toNat+18446744073709551616*(c.toNat+18446744073709551616*(d.toNat+18446744073709551616*(e.toNat+18446744073709551616*k))))) (hf:k%18446744073709551616=f.toNat):l6 n= [a,b,c,d,e,f]:=by
 obtain ⟨h1,h0⟩:=div_eq a.toNat_lt h
 obtain ⟨h2,h3⟩:=div_eq b.toNat_lt h1
 obtain ⟨h4,h5⟩:=div_eq c.toNat_lt h2
 obtain ⟨h6,h7⟩:=div_eq d.toNat_lt h4
 obtain ⟨h8,h9⟩:=div_eq e.toNat_lt h6
 unfold l6
 rw [iR (x:=a) h0,iR (x:=b) h3,iR (x:=c) h5,iR (x:=d) h7,iR (x:=e) h9,iR (x:=f) (by rw [h8];exact hf)]
theorem aq4 (n:Nat):(l6 n).length=6:=rfl
def aFE (t a x c:UInt64):UInt64:=Ae t (Ae (a*x) c 0) 0
def CP (t a x c:UInt64):UInt64:=avQ a x+Gn (a*x) c 0+Gn t (Ae (a*x) c 0) 0
theorem aFo {t P p h c l k1 r k2 W:Nat} (hP:P=p+W*h) (h1:p+c=l+W*k1) (h2:t+l=r+W*k2):t+P+c=r+W*(h+k1+k2):=by
 rw [Nat.mul_add,Nat.mul_add]
 omega
theorem auJ {t P c r q W:Nat} (hW:0<W) (ht:t<=W-1) (hc:c<=W-1) (hP:P<=(W-1)*(W-1)) (h:t+P+c=r+W*q):q<W:=by
 obtain ⟨V,rfl⟩:∃ V,W=V+1:=⟨W-1,by omega⟩
 rw [Nat.add_sub_cancel] at*
 refine Nat.lt_of_not_le λhq=> ?_
 have h1:(V+1)*(V+1)<=(V+1)*q:=Nat.mul_le_mul_left _ hq
 have h2:(V+1)*(V+1)=V*V+V+V+1:=by rw [Nat.add_mul,Nat.mul_add,Nat.one_mul,Nat.mul_one];omega
 omega
theorem axK (a x:UInt64):(avQ a x).toNat=a.toNat*x.toNat/18446744073709551616:=by
 have ha:=a.toNat_lt
 have hx:=x.toNat_lt
 have:a.toNat*x.toNat/18446744073709551616<18446744073709551616:=by
  rw [Nat.div_lt_iff_lt_mul (by omega)]
  exact Nat.mul_lt_mul'' ha hx
 unfold avQ
 rw [dA,bn this]
theorem Hk (t a x c:UInt64):t.toNat+a.toNat*x.toNat+c.toNat=(aFE t a x c).toNat+18446744073709551616*(CP t a x c).toNat:=by
 have hP:a.toNat*x.toNat=(a*x).toNat+18446744073709551616*(avQ a x).toNat:=by
  rw [axK,UInt64.toNat_mul]
  exact (Nat.mod_add_div _ _).symm
 have h1:=mX (a*x) c 0
 have h2:=mX t (Ae (a*x) c 0) 0
 rw [show (0:UInt64).toNat=0 from rfl,Nat.add_zero] at h1 h2
 have key:=aFo hP h1 h2
 have hb:=auJ (W:=18446744073709551616) (by omega) (Nat.le_sub_one_of_lt t.toNat_lt) (Nat.le_sub_one_of_lt c.toNat_lt) (Nat.mul_le_mul (Nat.le_sub_one_of_lt a.toNat_lt) (Nat.le_sub_one_of_lt x.toNat_lt)) key
 have e:(CP t a x c).toNat=(avQ a x).toNat+(Gn (a*x) c 0).toNat+(Gn t (Ae (a*x) c 0) 0).toNat:=by
  unfold CP
  rw [UInt64.toNat_add,UInt64.toNat_add,Nat.mod_add_mod]
  exact bn hb
 rw [e]
 exact key
theorem Hl {t a x c s k T A R W:Nat} (h1:t+a*x+c=s+W*k) (h2:T+A*x+k=R):(t+W*T)+(a+W*A)*x+c=s+W*R:=by
 rw [Nat.add_mul,Nat.mul_assoc,<-h2,Nat.mul_add,Nat.mul_add]
 omega
def aIH (t0 t1 t2 t3 t4 t5:UInt64) (a:ab) (x:UInt64):List UInt64:=
 let k0:=CP t0 a.w0 x 0
 let k1:=CP t1 a.w1 x k0
 let k2:=CP t2 a.w2 x k1
 let k3:=CP t3 a.w3 x k2
 [aFE t0 a.w0 x 0,aFE t1 a.w1 x k0,aFE t2 a.w2 x k1,aFE t3 a.w3 x k2,Ae t4 k3 0,t5+Gn t4 k3 0]
theorem aFp (t0 t1 t2 t3 t4 t5:UInt64) (a:ab) (x:UInt64):aIH t0 t1 t2 t3 t4 t5 a x=l6 (v6 [t0,t1,t2,t3,t4,t5]+a.nat*x.toNat):=by
 have h4:=mX t4 (CP t3 a.w3 x (CP t2 a.w2 x (CP t1 a.w1 x (CP t0 a.w0 x 0)))) 0
 rw [show (0:UInt64).toNat=0 from rfl,Nat.add_zero] at h4
 have h5:(t4.toNat+18446744073709551616*t5.toNat)+0*x.toNat+(CP t3 a.w3 x (CP t2 a.w2 x (CP t1 a.w1 x (CP t0 a.w0 x 0)))).toNat=
  (Ae t4 (CP t3 a.w3 x (CP t2 a.w2 x (CP t1 a.w1 x (CP t0 a.w0 x 0)))) 0).toNat+18446744073709551616*(t5.toNat+(Gn t4 (CP t3 a.w3 x (CP t2 a.w2 x (CP t1 a.w1 x (CP t0 a.w0 x 0)))) 0).toNat):=by
  rw [Nat.zero_mul,Nat.mul_add]
  omega
 have h:=Hl (Hk t0 a.w0 x 0) (Hl (Hk t1 a.w1 x _) (Hl (Hk t2 a.w2 x _) (Hl (Hk t3 a.w3 x _) h5)))
 rw [show (0:UInt64).toNat=0 from rfl,Nat.add_zero,Nat.mul_zero,Nat.add_zero] at h
 exact (aH7 (f:=t5+Gn t4 (CP t3 a.w3 x (CP t2 a.w2 x (CP t1 a.w1 x (CP t0 a.w0 x 0)))) 0) h (by rw [UInt64.toNat_add])).symm
def KR:af:=⟨[.val true (.arr 6 .u64),dw,aQ],[],true,0,false⟩
abbrev asT:Type:=(ap×ab×m4)×Unit
def aEC:Shape:=⟨61,[(2,aQ),Cu,(4,ir),(6,fE),(7,aQ),(13,aC)],aiR,0,true⟩
abbrev jA:Type:=(UInt64×aiM)×o5
def B4:Shape:=⟨61,[Cu,jV,(7,aQ)],uD,0,true⟩
abbrev wa:Type:=aiJ
def aEF (a2:UInt64) (a7:UInt64) (a13:Int) (c0:ap) (c1:ap) (c2:ap):OT (Sum jA aZ):=
 let z0:Bool:=inB a13 6
 let z1:Bool:=decide (Int.toNat a13+0<List.length c0)
 let z2:UInt64:=List.getD c1 (Int.toNat a13+0) (0:UInt64)
 let z3:UInt64:=List.getD c0 (Int.toNat a13+0) (0:UInt64)
 let z4:UInt64:=Ae (z2*a2) a7 (0:UInt64)
 (.br (decide (a13<(4:Int)))
 (gd [inB a13 4,decide (Int.toNat a13+0<List.length c1),z0,z1,z0,z1,inR (a13+(1:Int))] (.ok (.inl ((a2,(),(),(),avQ z2 a2+Gn (z2*a2) a7 (0:UInt64)+Gn z3 z4 (0:UInt64),a13+(1:Int),()),List.set c0 (Int.toNat a13+0) (Ae z3 z4 (0:UInt64)),c1,c2,()))))
 (.ok (.inr ⟨(.exit 0,B4),(((),(),a7,()),c0,c2,())⟩)))
def Sj (s:jA):OT (Sum jA aZ):=aEF s.1.1 s.1.2.2.2.2.1 s.1.2.2.2.2.2.1 s.2.1 s.2.2.1 s.2.2.2.1
def asR (g0_0:jA->wa) (s:jA):OT aZ:=(.ok ⟨(.exit 0,B4),g0_0 s⟩)
def adt:aL:=⟨[.val true (.arr 6 .u64)],[],false⟩
section
variable (ok0:jA->Bool) (g0_0:jA->wa)
def aBh (a0:ap) (a1:ab) (a2:UInt64):OT KR.Y:=
 let z0:jA:=((a2,(),(),(),(0:UInt64),(0:Int),()),tab a0 6 (0:UInt64),[a1.w0,a1.w1,a1.w2,a1.w3],[(0:UInt64),(0:UInt64),(0:UInt64),(0:UInt64),(0:UInt64),(0:UInt64)],())
 let z1:wa:=g0_0 z0
 let z2:=z1.snd
 let z3:=z2.fst
 let z4:Bool:=decide (4<List.length z3)
 let z5:UInt64:=List.getD z3 4 0
 let z6:=z1.fst.snd.snd.fst
 let z7:ap:=List.set z3 4 (Ae z5 z6 (0:UInt64))
 let z8:Bool:=decide (5<List.length z7)
 let z9:ap:=List.set z7 5 (List.getD z7 5 0+Gn z5 z6 (0:UInt64))
 let z10:=z2.snd.fst
 let z11:ap:=lay z10 z9 6 (0:UInt64)
 (gd [ok0 z0,z4,z4,z8,z8,decide (6<=List.length z9),decide ((6/1:Nat)+0<=List.length z10),decide (6<=List.length z11)] (.ok ⟨adt,((tab z11 6 (0:UInt64),()),())⟩))
theorem asP (h0:bh Sj ok0 (asR g0_0)) (pre:asT->Bool) (F:asT->OT KR.Y) (hF:∀ (x:asT) oy,pre x=true->(F x).run=some oy->(aBh ok0 g0_0 x.1.1 x.1.2.1 x.1.2.2.1).run=some oy):aa aj 178 (KR.az pre F):=
 di Tk 178 Tryz.f178 KR [adt] (lg Tk 0 aEC [(0,B4)] none none Sj bD h0 bD) (λx=>aBh ok0 g0_0 x.1.1 x.1.2.1 x.1.2.2.1) hF
end
def az6 (a:ap) (x:UInt64) (k:Nat) (s:F0):F0:=(s.1.set k (aFE (s.1.getD k 0) (a.getD k 0) x s.2),CP (s.1.getD k 0) (a.getD k 0) x s.2)
def ahI (s:jA):Bool:=decide (s.1.2.2.2.2.1=0/\s.1.2.2.2.2.2.1=0/\s.2.1.length=6/\s.2.2.1.length=4)
def asQ (s:jA):wa:=(((),(),(upto (az6 s.2.2.1 s.1.1) (s.2.1,0) 4).2,()),(upto (az6 s.2.2.1 s.1.1) (s.2.1,0) 4).1,s.2.2.2.1,())
theorem aEE:bh Sj ahI (asR asQ):=by
 rintro ⟨⟨x,⟨⟩,⟨⟩,⟨⟩,c,i,⟨⟩⟩,⟨t,a,o,⟨⟩⟩⟩ h
 have h':=bm h
 dsimp only at h'
 obtain ⟨rfl,rfl,ht,ha⟩:=h'
 have:=(bf (T:=Sj) (λk s=>(((x,(),(),(),s.2,(k:Int),()),s.1,a,o,()):jA)) (az6 a x)
  (λs=>(⟨(.exit 0,B4),(((),(),s.2,()),s.1,o,())⟩:aZ)) 4 (t,0) (λ_ s=>s.1.length=6) ht (λk s hk hs=>⟨?_,?_⟩) (λs hs=> ?_)).1
 ·obtain ⟨m,hm⟩:=this
  exact ⟨m,_,hm,rfl⟩
 ·refine (OT.ak (ag (by dsimp only;omega))).trans ((ae ?_).trans ?_)
  ·simp only [cD,Nat.add_zero,hs,ha,aA,aI,aJ,aw]
   exact ⟨ba (by omega),ag (by omega),ba (by omega),ag (by omega),ba (by omega),ag (by omega),aS (by omega)⟩
  ·simp only [OT.jf,cD,Nat.add_zero]
   rfl
 ·simp only [az6,cu]
  exact hs
 ·exact OT.au (bq (by dsimp only;omega))
def ahH (_:asT):Bool:=true
def asS (x:asT):OT KR.Y:=.ok ⟨adt,((l6 (v6 x.1.1+x.1.2.1.nat*x.1.2.2.1.toNat),()),())⟩
theorem aED:aa aj 178 (KR.az ahH asS):=asP ahI asQ aEE _ _ λx oy hp ho=>by
 rw [<-ho]
 clear ho
 obtain ⟨⟨t,a,x,⟨⟩⟩,⟨⟩⟩:=x
 refine (ae ?_).trans ?_
 ·simp only [aA,aI,aJ,aw]
  exact ⟨rfl,rfl,rfl,rfl,rfl,rfl,rfl,rfl⟩
 ·have e:=aFp (t.getD 0 0) (t.getD 1 0) (t.getD 2 0) (t.getD 3 0) (t.getD 4 0) (t.getD 5 0) a x
  have e2:l6 (v6 t+a.nat*x.toNat)=aIH (t.getD 0 0) (t.getD 1 0) (t.getD 2 0) (t.getD 3 0) (t.getD 4 0) (t.getD 5 0) a x:=e.symm
  simp only [asS,e2]
  rfl
def KQ:bt:=(KR.az ahH asS)
theorem am0:aa aj 178 KQ:=aED
theorem amZ:ax KQ:=av
def aCm:Env:=aq 178 KQ aCe
theorem Tl:bV aj te aCm:=aU follows Tk am0 amZ
theorem aFK {n:Nat} (h:n/18446744073709551616/18446744073709551616/18446744073709551616/18446744073709551616/18446744073709551616<18446744073709551616):v6 (l6 n)=n:=by
 unfold v6 l6
 simp only [List.getD_cons_zero,List.getD_cons_succ,dA]
 rw [show (2:Nat)^64=18446744073709551616 from rfl]
 omega
def Ii (p neg a:Nat) (b t:Nat):Nat:=(t+a*b+p*((t+a*b)*neg%18446744073709551616))/18446744073709551616
theorem uZ {p neg a b t:Nat} (hn:(p*neg+1)%18446744073709551616=0):18446744073709551616*Ii p neg a b t=t+a*b+p*((t+a*b)*neg%18446744073709551616):=by
 unfold Ii
 refine Nat.mul_div_cancel' (Nat.dvd_of_mod_eq_zero ?_)
 generalize t+a*b=u
 rw [Nat.add_mod,Nat.mul_mod,Nat.mod_mod,<-Nat.mul_mod,<-Nat.add_mod]
 have:u+p*(u*neg)=u*(p*neg+1):=by
  rw [Nat.mul_add,Nat.mul_one,Nat.mul_left_comm]
  omega
 rw [this,Nat.mul_mod,hn,Nat.mul_zero,Nat.zero_mod]
theorem uY {p neg a b t:Nat} (hn:(p*neg+1)%18446744073709551616=0) (ht:t<2*p) (ha:a<p) (hb:b<18446744073709551616):Ii p neg a b t<2*p:=by
 have h:=uZ (a:=a) (b:=b) (t:=t) hn
 have hm:(t+a*b)*neg%18446744073709551616<=18446744073709551615:=by
  have:=Nat.mod_lt ((t+a*b)*neg) (show 0<18446744073709551616 by omega)
  omega
 have h1:p*((t+a*b)*neg%18446744073709551616)<=p*18446744073709551615:=Nat.mul_le_mul_left _ hm
 have h2:a*b<=p*18446744073709551615:=Nat.mul_le_mul (by omega) (by omega)
 omega
theorem aDy {p a b t t1 m K T B M W:Nat} (h1:W*t1=t+a*b+p*m) (h2:K*T=t1+a*B+p*M):(W*K)*T=t+a*(b+W*B)+p*(m+W*M):=by
 have e:(W*K)*T=W*t1+W*(a*B)+W*(p*M):=by rw [Nat.mul_assoc,h2,Nat.mul_add,Nat.mul_add]
 rw [e,h1,Nat.mul_add,Nat.mul_add,Nat.mul_left_comm a W,Nat.mul_left_comm p W]
 omega
theorem aIJ {p a b T K M r:Nat} (h:K*T=a*b+p*M) (hr:K*r%p=1%p):T%p=a*b*r%p:=by
 have h1:(K*T)*r=a*b*r+p*(M*r):=by rw [h,Nat.add_mul,Nat.mul_assoc p]
 have h2:a*b*r%p=(K*T*r)%p:=by rw [h1,Nat.add_mul_mod_self_left]
 have h3:K*T*r=T*(K*r):=by rw [Nat.mul_comm K T,Nat.mul_assoc]
 rw [h2,h3,Nat.mul_mod,hr,<-Nat.mul_mod,Nat.mul_one]
def aGm (p neg a:Nat) (b:ab):Nat:=Ii p neg a b.w3.toNat (Ii p neg a b.w2.toNat (Ii p neg a b.w1.toNat (Ii p neg a b.w0.toNat 0)))
theorem axT {p neg a r:Nat} {b:ab} (hn:(p*neg+1)%18446744073709551616=0) (hr:115792089237316195423570985008687907853269984665640564039457584007913129639936*r%p=1%p):aGm p neg a b%p=a*b.nat*r%p:=by
 have h:=aDy (uZ (a:=a) (b:=b.w0.toNat) (t:=0) hn) (aDy (uZ (a:=a) (b:=b.w1.toNat) hn) (aDy (uZ (a:=a) (b:=b.w2.toNat) hn) (show 18446744073709551616*_=_+a*b.w3.toNat+p*_ from uZ hn)))
 rw [Nat.zero_add] at h
 exact aIJ (K:=18446744073709551616*(18446744073709551616*(18446744073709551616*18446744073709551616))) h hr
theorem aD6 {p neg a:Nat} {b:ab} (hn:(p*neg+1)%18446744073709551616=0) (ha:a<p):aGm p neg a b<2*p:=
 uY hn (uY hn (uY hn (uY hn (by omega) ha b.w0.toNat_lt) ha b.w1.toNat_lt) ha b.w2.toNat_lt) ha b.w3.toNat_lt
theorem aD7 {T p:Nat} (h:T<2*p):T%p=if T<p then T else T-p:=by
 split
 ·exact bn ‹_›
 ·rw [Nat.mod_eq_sub_mod (by omega),bn (by omega)]
def tM:af:=⟨[Pc,dw,dw],[],true,0,false⟩
abbrev WX:Type:=(iW×xo)×Unit
def ayJ:Shape:=⟨61,[Cu,(4,ir),(6,fE),(7,gv),(13,dw),(14,aC)],[(0,Pd),pa,lB,nY],0,true⟩
abbrev fy:Type:=(Unit×Unit×Unit×Unit×ab×eU)×MV×o5
def vT:Shape:=⟨61,[Cu,jV,(7,fE)],aet,0,true⟩
abbrev zx:Type:=nW×MV×Af
def RU (a13:ab) (a14:Int) (c0_0:UInt64) (c0_1:UInt64) (c0_2:UInt64) (c0_3:UInt64) (c0_4:Int) (c0_5:UInt64) (c0_6:UInt64) (c0_7:UInt64) (c0_8:UInt64) (c0_9:UInt64) (c0_10:UInt64) (c1:ap) (c2:ap) (c3:ap):OT (Sum fy aZ):=
 let z0:Nat:=List.length c3
 let z1:ap:=lay c3 (l6 (v6 (tab c3 6 (0:UInt64))+ab.nat {w0:=List.getD c1 0 0,w1:=List.getD c1 1 0,w2:=List.getD c1 2 0,w3:=List.getD c1 3 0}*UInt64.toNat (List.getD [a13.w0,a13.w1,a13.w2,a13.w3] (Int.toNat a14) (0:UInt64)))) 6 (0:UInt64)
 let z2:Nat:=List.length z1
 let z3:ap:=lay z1 (l6 (v6 (tab z1 6 (0:UInt64))+ab.nat {w0:=c0_0,w1:=c0_1,w2:=c0_2,w3:=c0_3}*UInt64.toNat (List.getD z1 0 0*c0_6))) 6 (0:UInt64)
 let z4:Nat:=List.length z3
 (.br (decide (a14<(4:Int)))
 (gd [inB a14 4,decide (6<=z0),decide (4<=List.length c1),decide ((6/1:Nat)+0<=z0),decide (6<=z2),decide (0<z2),decide ((6/1:Nat)+0<=z2),decide (1<z4),decide (2<z4),decide (3<z4),decide (4<z4),decide (5<z4),decide ((6/1:Nat)+0<=z4),inR (a14+(1:Int))] (.ok (.inl (((),(),(),(),a13,a14+(1:Int),()),(c0_0,c0_1,c0_2,c0_3,c0_4,c0_5,c0_6,c0_7,c0_8,c0_9,c0_10,()),c1,c2,List.set (List.set (List.set (List.set (List.set (List.set z3 0 (List.getD z3 1 0)) 1 (List.getD z3 2 0)) 2 (List.getD z3 3 0)) 3 (List.getD z3 4 0)) 4 (List.getD z3 5 0)) 5 (0:UInt64),()))))
 (.ok (.inr ⟨(.exit 0,vT),(((),(),(),()),(c0_0,c0_1,c0_2,c0_3,c0_4,c0_5,c0_6,c0_7,c0_8,c0_9,c0_10,()),c2,c3,())⟩)))
def G7 (s:fy):OT (Sum fy aZ):=RU s.1.2.2.2.2.1 s.1.2.2.2.2.2.1 s.2.1.1 s.2.1.2.1 s.2.1.2.2.1 s.2.1.2.2.2.1 s.2.1.2.2.2.2.1 s.2.1.2.2.2.2.2.1 s.2.1.2.2.2.2.2.2.1 s.2.1.2.2.2.2.2.2.2.1 s.2.1.2.2.2.2.2.2.2.2.1 s.2.1.2.2.2.2.2.2.2.2.2.1 s.2.1.2.2.2.2.2.2.2.2.2.2.1 s.2.2.1 s.2.2.2.1 s.2.2.2.2.1
def aht (g0_0:fy->zx) (s:fy):OT aZ:=(.ok ⟨(.exit 0,vT),g0_0 s⟩)
def vS:aL:=⟨iq,[],false⟩
section
variable (ok0:fy->Bool) (g0_0:fy->zx)
def ar7 (a0:iW) (a1:ab) (a2:ab):OT tM.Y:=
 let z0:fy:=(((),(),(),(),a2,(0:Int),()),(a0.fst.w0,a0.fst.w1,a0.fst.w2,a0.fst.w3,a0.snd.fst,a0.snd.snd.fst,a0.snd.snd.snd.fst,a0.snd.snd.snd.snd.w0,a0.snd.snd.snd.snd.w1,a0.snd.snd.snd.snd.w2,a0.snd.snd.snd.snd.w3,()),[a1.w0,a1.w1,a1.w2,a1.w3],[(0:UInt64),(0:UInt64),(0:UInt64),(0:UInt64)],[(0:UInt64),(0:UInt64),(0:UInt64),(0:UInt64),(0:UInt64),(0:UInt64)],())
 let z1:=(g0_0 z0).snd
 let z2:=z1.snd
 let z3:=z2.snd.fst
 let z4:Nat:=List.length z3
 let z5:=z2.fst
 let z6:Nat:=List.length z5
 let z7:Bool:=decide ((4/1:Nat)+0<=z6)
 let z8:=z1.fst
 let z9:=z8.snd
 let z10:=z9.snd
 let z11:ab×Bool:=ng {w0:=List.getD z3 0 0,w1:=List.getD z3 1 0,w2:=List.getD z3 2 0,w3:=List.getD z3 3 0} {w0:=z8.fst,w1:=z9.fst,w2:=z10.fst,w3:=z10.snd.fst}
 let z12:=z11.fst
 let z13:ap:=List.set (List.set (List.set (List.set z5 0 z12.w0) 1 z12.w1) 2 z12.w2) 3 z12.w3
 let z14:Bool:=decide (4<=List.length z13)
 let z15:ab:= {w0:=List.getD z13 0 0,w1:=List.getD z13 1 0,w2:=List.getD z13 2 0,w3:=List.getD z13 3 0}
 let z16:ap:=lay z5 z3 4 (0:UInt64)
 (gd [ok0 z0,decide (6<=z4)&&true,decide (4<=z4),decide (4<z4)] (.br (!List.getD z3 4 0==(0:UInt64))
 (gd [z7,z14] (.ok ⟨vS,((z15,()),())⟩))
 (.br (!z11.snd)
  (gd [z7,z14] (.ok ⟨vS,((z15,()),())⟩))
  (gd [decide ((4/1:Nat)+0<=z6),decide (4<=List.length z16)] (.ok ⟨vS,(({w0:=List.getD z16 0 0,w1:=List.getD z16 1 0,w2:=List.getD z16 2 0,w3:=List.getD z16 3 0},()),())⟩)))))
theorem amt (h0:bh G7 ok0 (aht g0_0)) (pre:WX->Bool) (F:WX->OT tM.Y) (hF:∀ (x:WX) oy,pre x=true->(F x).run=some oy->(ar7 ok0 g0_0 x.1.1 x.1.2.1 x.1.2.2.1).run=some oy):aa aj 154 (tM.az pre F):=
 di Tl 154 Tryz.f154 tM [vS] (lg Tl 0 ayJ [(0,vT)] none none G7 bD h0 bD) (λx=>ar7 ok0 g0_0 x.1.1 x.1.2.1 x.1.2.2.1) hF
end
def lq (n:MX):Bool:=decide (n=bB 2)||decide (n=bB 3)
theorem ju {n:MX} (h:lq n=true):n=bB 2\/n=bB 3:=by
 simpa [lq] using h
def axi (n:MX):Nat:=if n.2.2.2.1==11037532056220336127 then 15353493766103302224812374511606760489073247795810767472367693728416386214313 else 14238205147845459960272226733876560297615832660064601289232577236146637664127
theorem arW {n:MX} (h:lq n=true):(n.1.nat*n.2.2.2.1.toNat+1)%18446744073709551616=0:=by
 rcases ju h with rfl|rfl<;>decide+kernel
theorem arX {n:MX} (h:lq n=true):115792089237316195423570985008687907853269984665640564039457584007913129639936*axi n%n.1.nat=1%n.1.nat:=by
 rcases ju h with rfl|rfl<;>decide+kernel
theorem arU {n:MX} (h:lq n=true):2*n.1.nat<=115792089237316195423570985008687907853269984665640564039457584007913129639936:=by
 rcases ju h with rfl|rfl<;>decide+kernel
theorem aIz (n:Nat):tab (l6 n) 6 0=l6 n:=rfl
theorem axZ {n:Nat} (h:n/18446744073709551616/18446744073709551616/18446744073709551616/18446744073709551616/18446744073709551616/18446744073709551616=0):
 [UInt64.ofNat (n/18446744073709551616),UInt64.ofNat (n/18446744073709551616/18446744073709551616),UInt64.ofNat (n/18446744073709551616/18446744073709551616/18446744073709551616),
  UInt64.ofNat (n/18446744073709551616/18446744073709551616/18446744073709551616/18446744073709551616),UInt64.ofNat (n/18446744073709551616/18446744073709551616/18446744073709551616/18446744073709551616/18446744073709551616),0]=l6 (n/18446744073709551616):=by
 unfold l6
 rw [h]
 rfl
theorem aID (a b:Nat):lay (l6 a) (l6 b) 6 0=l6 b:=VQ rfl rfl
theorem av4 (U:Nat) (neg:UInt64):(List.getD (l6 U) 0 0*neg).toNat=U*neg.toNat%18446744073709551616:=by
 show (UInt64.ofNat U*neg).toNat=_
 rw [UInt64.toNat_mul,dA,Nat.mul_mod,Nat.mod_mod,<-Nat.mul_mod]
theorem ams (b:ab) (k:Nat) (hk:k<4) (x0 x1 x2 x3 x5 x6 x7 x8 x9 x10:UInt64) (x4:Int) (c1 c2:ap) (T:Nat) (h1:c1.length=4) (hT:T<2*(ab.mk x0 x1 x2 x3).nat)
 (hn:((ab.mk x0 x1 x2 x3).nat*x6.toNat+1)%18446744073709551616=0) (hp:2*(ab.mk x0 x1 x2 x3).nat<=115792089237316195423570985008687907853269984665640564039457584007913129639936) (ha:(elemOf c1).nat<(ab.mk x0 x1 x2 x3).nat):
 (RU b (k:Int) x0 x1 x2 x3 x4 x5 x6 x7 x8 x9 x10 c1 c2 (l6 T)).run=some (.inl (((),(),(),(),b,((k+1:Nat):Int),()),(x0,x1,x2,x3,x4,x5,x6,x7,x8,x9,x10,()),c1,c2,l6 (Ii (ab.mk x0 x1 x2 x3).nat x6.toNat (elemOf c1).nat ((lst b).getD k 0).toNat T),())):=by
 have hlt:=uY (b:=((lst b).getD k 0).toNat) hn hT ha (UInt64.toNat_lt _)
 have heq:=uZ (a:=(elemOf c1).nat) (b:=((lst b).getD k 0).toNat) (t:=T) hn
 have hrd:Ii (ab.mk x0 x1 x2 x3).nat x6.toNat (elemOf c1).nat ((lst b).getD k 0).toNat T=(T+(elemOf c1).nat*((lst b).getD k 0).toNat+(ab.mk x0 x1 x2 x3).nat*((T+(elemOf c1).nat*((lst b).getD k 0).toNat)*x6.toNat%18446744073709551616))/18446744073709551616:=rfl
 generalize hU:T+(elemOf c1).nat*((lst b).getD k 0).toNat=U at heq hrd
 generalize hV:U+(ab.mk x0 x1 x2 x3).nat*(U*x6.toNat%18446744073709551616)=V at heq hrd
 generalize Ii (ab.mk x0 x1 x2 x3).nat x6.toNat (elemOf c1).nat ((lst b).getD k 0).toNat T=S at*
 have hVU:U<=V:=by rw [<-hV];exact Nat.le_add_right _ _
 have hz1:lay (l6 T) (l6 (v6 (tab (l6 T) 6 0)+ab.nat {w0:=List.getD c1 0 0,w1:=List.getD c1 1 0,w2:=List.getD c1 2 0,w3:=List.getD c1 3 0}*UInt64.toNat (List.getD [b.w0,b.w1,b.w2,b.w3] (Int.toNat (k:Int)) 0))) 6 0=l6 U:=by
  rw [aIz,aFK (by omega),aID,cD]
  exact congrArg l6 hU
 have hz3:lay (l6 U) (l6 (v6 (tab (l6 U) 6 0)+ab.nat {w0:=x0,w1:=x1,w2:=x2,w3:=x3}*UInt64.toNat (List.getD (l6 U) 0 0*x6))) 6 0=l6 V:=by
  rw [aIz,aFK (by omega),aID,av4,hV]
 have hsh:_=l6 (V/18446744073709551616):=axZ (n:=V) (by omega)
 unfold RU
 simp only [hz1,hz3]
 refine (OT.ak (ag (by omega))).trans ((ae ?_).trans ?_)
 ·simp only [aq4,h1,aA,aI,aJ,aw]
  exact ⟨ba (by omega),rfl,rfl,rfl,rfl,rfl,rfl,rfl,rfl,rfl,rfl,rfl,rfl,aS (by omega)⟩
 ·rw [hrd]
  exact congrArg (λl=>some (Sum.inl (((),(),(),(),b,((k+1:Nat):Int),()),(x0,x1,x2,x3,x4,x5,x6,x7,x8,x9,x10,()),c1,c2,l,()))) hsh
def atM (s:fy):ab:=⟨s.2.1.1,s.2.1.2.1,s.2.1.2.2.1,s.2.1.2.2.2.1⟩
def aE8 (s:fy):UInt64:=s.2.1.2.2.2.2.2.2.1
def WW (s:fy):Bool:=decide (s.1.2.2.2.2.2.1=0/\s.2.2.1.length=4/\s.2.2.2.2.1=l6 0/\((atM s).nat*(aE8 s).toNat+1)%18446744073709551616=0/\2*(atM s).nat<=115792089237316195423570985008687907853269984665640564039457584007913129639936/\(elemOf s.2.2.1).nat<(atM s).nat)
def RT (s:fy):zx:=(((),(),(),()),s.2.1,s.2.2.2.1,l6 (aGm (atM s).nat (aE8 s).toNat (elemOf s.2.2.1).nat s.1.2.2.2.2.1),())
theorem ayL:bh G7 WW (aht RT):=by
 rintro ⟨⟨⟨⟩,⟨⟩,⟨⟩,⟨⟩,b,i,⟨⟩⟩,⟨⟨x0,x1,x2,x3,x4,x5,x6,x7,x8,x9,x10,⟨⟩⟩,c1,c2,c3,⟨⟩⟩⟩ h
 have h':=bm h
 dsimp only [atM,aE8] at h'
 obtain ⟨rfl,h1,rfl,hn,hp,ha⟩:=h'
 have:=(bf (T:=G7) (λk T=>((((),(),(),(),b,(k:Int),()),(x0,x1,x2,x3,x4,x5,x6,x7,x8,x9,x10,()),c1,c2,l6 T,()):fy)) (λk T=>Ii (ab.mk x0 x1 x2 x3).nat x6.toNat (elemOf c1).nat ((lst b).getD k 0).toNat T)
  (λT=>(⟨(.exit 0,vT),(((),(),(),()),(x0,x1,x2,x3,x4,x5,x6,x7,x8,x9,x10,()),c2,l6 T,())⟩:aZ)) 4 0 (λ_ T=>T<2*(ab.mk x0 x1 x2 x3).nat) (by omega) (λk T hk hT=>⟨?_,?_⟩) (λT hT=> ?_)).1
 ·obtain ⟨m,hm⟩:=this
  exact ⟨m,_,hm,rfl⟩
 ·exact ams b k hk x0 x1 x2 x3 x5 x6 x7 x8 x9 x10 x4 c1 c2 T h1 hT hn hp ha
 ·exact uY hn hT ha (UInt64.toNat_lt _)
 ·exact OT.au (bq (by dsimp only;omega))
def tL (x:WX):Bool:=lq x.1.1&&Nat.blt x.1.2.1.nat x.1.1.1.nat
def ar8 (x:WX):OT tM.Y:=.ok ⟨vS,((ofN (x.1.2.1.nat*x.1.2.2.1.nat*axi x.1.1%x.1.1.1.nat),()),())⟩
theorem ayK:aa aj 154 (tM.az tL ar8):=amt WW RT ayL _ _ λx oy hp ho=>by
 rw [<-ho]
 clear ho
 obtain ⟨⟨⟨⟨m0,m1,m2,m3⟩,ad,sm,neg,sq⟩,a,b,⟨⟩⟩,⟨⟩⟩:=x
 have hp':(lq (⟨m0,m1,m2,m3⟩,ad,sm,neg,sq)&&Nat.blt a.nat (ab.mk m0 m1 m2 m3).nat)=true:=hp
 rw [aw] at hp'
 obtain ⟨hg,ha⟩:=hp'
 have ha:=dK ha
 have hn:((ab.mk m0 m1 m2 m3).nat*neg.toNat+1)%18446744073709551616=0:=arW hg
 have h2:2*(ab.mk m0 m1 m2 m3).nat<=115792089237316195423570985008687907853269984665640564039457584007913129639936:=arU hg
 have hr:115792089237316195423570985008687907853269984665640564039457584007913129639936*axi (⟨m0,m1,m2,m3⟩,ad,sm,neg,sq)%(ab.mk m0 m1 m2 m3).nat=1%(ab.mk m0 m1 m2 m3).nat:=arX hg
 have hM:=axT (a:=a.nat) (b:=b) hn hr
 have hL:=aD6 (b:=b) hn ha
 refine (ae ?_).trans ?_
 ·simp only [aA,aI,aJ,aw]
  exact ⟨ag ⟨rfl,rfl,rfl,hn,h2,ha⟩,rfl,rfl,rfl⟩
 ·show _=(OT.ok ⟨vS,((ofN (a.nat*b.nat*axi (⟨m0,m1,m2,m3⟩,ad,sm,neg,sq)%(ab.mk m0 m1 m2 m3).nat),()),())⟩:OT tM.Y).run
  rw [<-hM,aD7 hL]
  have e0:RT (((),(),(),(),b,0,()),(m0,m1,m2,m3,ad,sm,neg,sq.w0,sq.w1,sq.w2,sq.w3,()),[a.w0,a.w1,a.w2,a.w3],[0,0,0,0],[0,0,0,0,0,0],())=(((),(),(),()),(m0,m1,m2,m3,ad,sm,neg,sq.w0,sq.w1,sq.w2,sq.w3,()),[0,0,0,0],l6 (aGm (ab.mk m0 m1 m2 m3).nat neg.toNat a.nat b),()):=rfl
  dsimp only
  rw [e0]
  clear e0 hM
  generalize aGm (ab.mk m0 m1 m2 m3).nat neg.toNat a.nat b=M at*
  have e4:List.getD (l6 M) 4 0=0:=by
   show UInt64.ofNat (M/18446744073709551616/18446744073709551616/18446744073709551616/18446744073709551616)=0
   rw [show M/18446744073709551616/18446744073709551616/18446744073709551616/18446744073709551616=0 by omega]
   rfl
  refine (OT.au (by rw [e4];rfl)).trans ?_
  have eN:(ofN M).nat=M:=oc (by omega)
  by_cases hlt:M<(ab.mk m0 m1 m2 m3).nat
  ·rw [if_pos hlt]
   refine (OT.au ?_).trans ((ae rfl).trans rfl)
   show (!Nat.blt (ofN M).nat (ab.mk m0 m1 m2 m3).nat)=false
   rw [eN,show Nat.blt M (ab.mk m0 m1 m2 m3).nat=true from jW hlt]
   rfl
  ·rw [if_neg hlt]
   refine (OT.ak ?_).trans ((ae rfl).trans ?_)
   ·show (!Nat.blt (ofN M).nat (ab.mk m0 m1 m2 m3).nat)=true
    rw [eN]
    cases hb:Nat.blt M (ab.mk m0 m1 m2 m3).nat
    ·rfl
    ·exact absurd (dK hb) hlt
   ·have ew:(ng (ofN M) (ab.mk m0 m1 m2 m3)).1=ofN (M-(ab.mk m0 m1 m2 m3).nat):=by
     apply gI
     rw [AA (by omega),eN,oc (by omega)]
    rw [<-ew]
    rfl
def Ec:bt:=(tM.az tL ar8)
theorem acS:aa aj 154 Ec:=ayK
theorem acR:ax Ec:=av
def avq:Env:=aq 154 Ec aCm
theorem Zp:bV aj te avq:=aU follows Tl acS acR
def tR:af:=⟨[Pc,dw,dw],[],true,0,false⟩
abbrev Xc:Type:=(iW×xo)×Unit
def qD:aL:=⟨iq,[],false⟩
def Ek (a0:iW) (a1:ab) (a2:ab):OT tR.Y:=
 let z0:Bool:= !a0.snd.snd.fst==(0:UInt64)
 let z1:Nat:=ab.nat a0.fst
 let z2:ab:=ofN (ab.nat a1%z1)
 let z3:ab:=ofN (ab.nat a2%z1)
 let z4:Nat:=axi a0
 let z5:ab:=ofN (ab.nat z2*ab.nat z3*z4%z1)
 (gd [il ((a0,a1,()),()),il ((a0,a2,()),())] (.br (z0)
 (gd [z0] (.ok ⟨qD,(({w0:=z2.w0*z3.w0%a0.snd.snd.fst,w1:=0,w2:=0,w3:=0},()),())⟩))
 (gd [tL ((a0,z2,z3,()),()),tL ((a0,z5,a0.snd.snd.snd.snd,()),())] (.ok ⟨qD,((ofN (ab.nat z5*ab.nat a0.snd.snd.snd.snd*z4%z1),()),())⟩))))
theorem amG (pre:Xc->Bool) (F:Xc->OT tR.Y) (hF:∀ (x:Xc) oy,pre x=true->(F x).run=some oy->(Ek x.1.1 x.1.2.1 x.1.2.2.1).run=some oy):aa aj 119 (tR.az pre F):=
 di Zp 119 Tryz.f119 tR [qD] bD (λx=>Ek x.1.1 x.1.2.1 x.1.2.2.1) hF
theorem aqL {p A B r s:Nat} (h:r*s*r%p=1%p):A*B*r%p*s*r%p=A*B%p:=by
 have e:A*B*r*(s*r)=A*B*(r*s*r):=by
  rw [Nat.mul_assoc (A*B) r (s*r),Nat.mul_assoc r s r]
 rw [Nat.mul_assoc,Nat.mul_mod,Nat.mod_mod,<-Nat.mul_mod,e,Nat.mul_mod,h,<-Nat.mul_mod,Nat.mul_one]
theorem ayu {n:MX} (h:lq n=true):axi n*n.2.2.2.2.nat*axi n%n.1.nat=1%n.1.nat:=by
 rcases ju h with rfl|rfl<;>decide+kernel
theorem aGy:lq (bB 2)=true:=by decide+kernel
theorem aGx:lq (bB 3)=true:=by decide+kernel
theorem arV {n:MX} (h:lq n=true):lk n=true:=by
 rcases ju h with rfl|rfl<;>decide+kernel
theorem FK {n:MX} {a b:ab} {m:UInt64} (hn0:lk n=true) (h1:n.1=⟨m,0,0,0⟩) (h2:n.2.2.1=m) (hs:jq m=true):(Ek n a b).run=some ⟨qD,((aR n.1.nat a b,()),())⟩:=by
 have hm:=AV hs
 have hb':m.toNat<=16521217:=by rcases ij hs with rfl|rfl<;>decide
 have hn:n.1.nat=m.toNat:=by rw [h1];show m.toNat+_*(0+_*(0+_*0))=_;omega
 have hz:(!(n.2.2.1==0))=true:=by
  rw [h2]
  rcases ij hs with rfl|rfl<;>rfl
 have ha:=Nat.mod_lt a.nat hm
 have hb:=Nat.mod_lt b.nat hm
 have hab:a.nat%m.toNat*(b.nat%m.toNat)<18446744073709551616:=by
  have:a.nat%m.toNat*(b.nat%m.toNat)<=16521217*16521217:=Nat.mul_le_mul (by omega) (by omega)
  omega
 have e:UInt64.ofNat (a.nat%m.toNat)*UInt64.ofNat (b.nat%m.toNat)%m=UInt64.ofNat (a.nat*b.nat%m.toNat):=by
  have hlt:=Nat.mod_lt (a.nat*b.nat) hm
  rw [<-rI,UInt64.toNat_mod,UInt64.toNat_mul,dA,dA,dA,bn (a:=a.nat%m.toNat) (by omega),bn (a:=b.nat%m.toNat) (by omega),
   bn (a:=a.nat%m.toNat*(b.nat%m.toNat)) (by omega),bn (a:=a.nat*b.nat%m.toNat) (by omega),<-Nat.mul_mod]
 have hlt:=Nat.mod_lt (a.nat*b.nat) hm
 unfold Ek
 refine (ae ?_).trans ((OT.ak hz).trans ((ae ?_).trans ?_))
 ·simp only [aA,aI,aJ,aw]
  exact ⟨hn0,hn0⟩
 ·simp only [hz,aA,aI,aJ]
 ·unfold aR
  rw [hn,Vx (n:=a.nat*b.nat%m.toNat) (by omega),<-e]
  show some (⟨qD,((⟨UInt64.ofNat (a.nat%m.toNat)*UInt64.ofNat (b.nat%m.toNat)%n.2.2.1,0,0,0⟩,()),())⟩:tR.Y)=_
  rw [h2]
theorem KC {n:MX} {a b:ab} (h:lq n=true) (h2:n.2.2.1=0):(Ek n a b).run=some ⟨qD,((aR n.1.nat a b,()),())⟩:=by
 have hn0:=arV h
 have hp:=Bj hn0
 have hz:(!(n.2.2.1==0))=false:=by rw [h2];rfl
 have e1:(ofN (a.nat%n.1.nat)).nat=a.nat%n.1.nat:=cv hp
 have e2:(ofN (b.nat%n.1.nat)).nat=b.nat%n.1.nat:=cv hp
 have e3:(ofN (a.nat%n.1.nat*(b.nat%n.1.nat)*axi n%n.1.nat)).nat=a.nat%n.1.nat*(b.nat%n.1.nat)*axi n%n.1.nat:=cv hp
 unfold Ek
 refine (ae ?_).trans ((OT.au hz).trans ((ae ?_).trans ?_))
 ·simp only [aA,aI,aJ,aw]
  exact ⟨hn0,hn0⟩
 ·simp only [aA,aI,aJ,aw,tL,h,true_and,e1,e2,e3]
  exact ⟨jW (Nat.mod_lt _ hp.1),jW (Nat.mod_lt _ hp.1)⟩
 ·simp only [e1,e2,e3,aqL (ayu h),aR,<-Nat.mul_mod]
  rfl
def gR (x:Xc):Bool:=lk x.1.1
def asu (x:Xc):OT tR.Y:=.ok ⟨qD,((aR x.1.1.1.nat x.1.2.1 x.1.2.2.1,()),())⟩
theorem ayY:aa aj 119 (tR.az gR asu):=amG _ _ λx oy hp ho=>by
 rw [<-ho]
 clear ho
 obtain ⟨⟨n,a,b,⟨⟩⟩,⟨⟩⟩:=x
 have hp':lk n=true:=hp
 rcases yF hp' with rfl|rfl|rfl|rfl
 ·exact FK hp' (m:=16513537) rfl rfl rfl
 ·exact FK hp' (m:=16521217) rfl rfl rfl
 ·exact KC aGy rfl
 ·exact KC aGx rfl
def Ej:bt:=(tR.az gR asu)
theorem ac6:aa aj 119 Ej:=ayY
theorem ac5:ax Ej:=av
def avx:Env:=aq 119 Ej avq
theorem Zt:bV aj te avx:=aU follows Zp ac6 ac5
def xg:af:=⟨L3,[],true,0,false⟩
abbrev ac4:Type:=LW
def Ei:aL:=⟨iq,[],false⟩
def aA7 (a0:Int) (a1:ab) (a2:ab):OT xg.Y:=
 let z0:iW:=bB (Int.toNat a0)
 (.br (ac a0)
 (gd [gR ((z0,a1,a2,()),())] (.ok ⟨Ei,((aR (ab.nat z0.fst) a1 a2,()),())⟩))
 (.ok ⟨Ei,(({w0:=0,w1:=0,w2:=0,w3:=0},()),())⟩))
theorem ast (pre:ac4->Bool) (F:ac4->OT xg.Y) (hF:∀ (x:ac4) oy,pre x=true->(F x).run=some oy->(aA7 x.1.1 x.1.2.1 x.1.2.2.1).run=some oy):aa aj 70 (xg.az pre F):=
 di Zt 70 Tryz.f70 xg [Ei] bD (λx=>aA7 x.1.1 x.1.2.1 x.1.2.2.1) hF
def ahy (_:ac4):Bool:=true
def aA8 (x:ac4):OT xg.Y:=.br (ac x.1.1) (.ok ⟨Ei,((aR (pS x.1.1) x.1.2.1 x.1.2.2.1,()),())⟩) (.ok ⟨Ei,((⟨0,0,0,0⟩,()),())⟩)
theorem ass:aa aj 70 (xg.az ahy aA8):=ast _ _ λx oy hp ho=>by
 rw [<-ho]
 clear ho
 obtain ⟨⟨s,a,b,⟨⟩⟩,⟨⟩⟩:=x
 cases hs:ac s
 ·exact (OT.au hs).trans (OT.au (b:=ac s) hs).symm
 ·refine (OT.ak hs).trans ((ae ?_).trans (OT.ak (b:=ac s) hs).symm)
  simp only [aA,aI,aJ]
  exact jm hs
def KB:bt:=(xg.az ahy aA8)
theorem amF:aa aj 70 KB:=ass
theorem amE:ax KB:=av
def aCh:Env:=aq 70 KB avx
theorem ajw:bV aj te aCh:=aU follows Zt amF amE
def zB:af:=⟨iq,[],true,0,false⟩
abbrev Xk:Type:=o3×Unit
def Sa:aL:=⟨iq,[],false⟩
def asB (a0:ab):OT zB.Y:=
 (.ok ⟨Sa,(({w0:=bE a0.w0 (1:Int)|||cE a0.w1 (63:Int),w1:=bE a0.w1 (1:Int)|||cE a0.w2 (63:Int),w2:=bE a0.w2 (1:Int)|||cE a0.w3 (63:Int),w3:=bE a0.w3 (1:Int)},()),())⟩)
theorem amP (pre:Xk->Bool) (F:Xk->OT zB.Y) (hF:∀ (x:Xk) oy,pre x=true->(F x).run=some oy->(asB x.1.1).run=some oy):aa aj 120 (zB.az pre F):=
 di ajw 120 Tryz.f120 zB [Sa] bD (λx=>asB x.1.1) hF
theorem Ki (x y:UInt64):(bE x 1|||cE y 63).toNat=x.toNat/2+9223372036854775808*(y.toNat%2):=by
 have hx:=x.toNat_lt
 have e1:(bE x 1).toNat=x.toNat/2:=iB x 1 (by omega)
 have e2:(cE y 63).toNat=9223372036854775808*(y.toNat%2):=by
  have:=su y 63 (by omega)
  have e:(cE y 63).toNat=y.toNat*2^63%2^64:=this
  rw [e]
  omega
 rw [UInt64.toNat_or,e1,e2,Nat.or_comm]
 have:=Nat.two_pow_add_eq_or_of_lt (i:=63) (b:=x.toNat/2) (by omega) (y.toNat%2)
 rw [Nat.add_comm]
 exact this.symm
theorem Kj (x N:Nat):(x+18446744073709551616*N)/2=(x/2+9223372036854775808*(N%2))+18446744073709551616*(N/2):=by
 omega
theorem abU (y N:Nat):(y+18446744073709551616*N)%2=y%2:=by
 omega
def iF (a:ab):ab:=ofN (a.nat/2)
theorem ayt (a:ab):iF a=⟨bE a.w0 1|||cE a.w1 63,bE a.w1 1|||cE a.w2 63,bE a.w2 1|||cE a.w3 63,bE a.w3 1⟩:=by
 refine aql (k:=0) ?_
 rw [Ki,Ki,Ki,Nat.mul_zero,Nat.add_zero]
 unfold Sx.ab.nat
 have e3:(bE a.w3 1).toNat=a.w3.toNat/2:=iB a.w3 1 (by omega)
 rw [Kj,abU,Kj,abU,Kj,e3]
def Xj (_:Xk):Bool:=true
def adg (x:Xk):OT zB.Y:=.ok ⟨Sa,((iF x.1.1,()),())⟩
theorem ay0:aa aj 120 (zB.az Xj adg):=amP _ _ λx oy hp ho=>by
 rw [<-ho]
 clear ho
 obtain ⟨⟨a,⟨⟩⟩,⟨⟩⟩:=x
 simp only [adg,ayt]
 rfl
def Em:bt:=(zB.az Xj adg)
theorem adf:aa aj 120 Em:=ay0
theorem ade:ax Em:=av
def avA:Env:=aq 120 Em aCh
theorem Mj:bV aj te avA:=aU follows ajw adf ade
def kR:af:=⟨kZ,[],true,0,false⟩
abbrev B0:Type:=aiG
def amL:Shape:=⟨12,[Cw,(4,ir),(5,aC),(6,aC)],uD,0,true⟩
abbrev ef:Type:=rF×Af
def nO:Shape:=⟨12,[Cw,(4,ir)],uD,0,true⟩
abbrev qG:Type:=mY
def amO (a5:Int) (a6:Int) (c0:ap) (c1:ap):OT (Sum ef aZ):=
 let z0:Nat:=List.length c0
 let z1:ab:=iF {w0:=List.getD c0 0 0,w1:=List.getD c0 1 0,w2:=List.getD c0 2 0,w3:=List.getD c0 3 0}
 (.br (decide (a6<a5))
 (gd [decide (4<=z0),decide ((4/1:Nat)+0<=z0),inR (a6+(1:Int))] (.ok (.inl (((),(),a5,a6+(1:Int),()),List.set (List.set (List.set (List.set c0 0 z1.w0) 1 z1.w1) 2 z1.w2) 3 z1.w3,c1,()))))
 (.ok (.inr ⟨(.exit 0,nO),(((),(),()),c0,c1,())⟩)))
def vZ (s:ef):OT (Sum ef aZ):=amO s.1.2.2.1 s.1.2.2.2.1 s.2.1 s.2.2.1
def Ov (g0_0:ef->qG) (s:ef):OT aZ:=(.ok ⟨(.exit 0,nO),g0_0 s⟩)
def oO:aL:=⟨iq,[],false⟩
section
variable (ok0:ef->Bool) (g0_0:ef->qG)
def Xh (a0:ab) (a1:Int):OT kR.Y:=
 let z0:ef:=(((),(),a1,(0:Int),()),[a0.w0,a0.w1,a0.w2,a0.w3],[(0:UInt64),(0:UInt64),(0:UInt64),(0:UInt64)],())
 let z1:=(g0_0 z0).snd
 let z2:=z1.fst
 let z3:=z1.snd.fst
 let z4:ap:=lay z3 z2 4 (0:UInt64)
 (gd [ok0 z0,decide (4<=List.length z2),decide ((4/1:Nat)+0<=List.length z3),decide (4<=List.length z4)] (.ok ⟨oO,(({w0:=List.getD z4 0 0,w1:=List.getD z4 1 0,w2:=List.getD z4 2 0,w3:=List.getD z4 3 0},()),())⟩))
theorem Xg (h0:bh vZ ok0 (Ov g0_0)) (pre:B0->Bool) (F:B0->OT kR.Y) (hF:∀ (x:B0) oy,pre x=true->(F x).run=some oy->(Xh ok0 g0_0 x.1.1 x.1.2.1).run=some oy):aa aj 176 (kR.az pre F):=
 di Mj 176 Tryz.f176 kR [oO] (lg Mj 0 amL [(0,nO)] none none vZ bD h0 bD) (λx=>Xh ok0 g0_0 x.1.1 x.1.2.1) hF
end
def jt (a:ab) (n:Nat):ab:=ofN (a.nat/2^n)
theorem Kh (a:ab):∀ n,upto (λ_ e=>iF e) a n=jt a n
 |0=>by
  show a=ofN (a.nat/2^0)
  rw [Nat.pow_zero,Nat.div_one,Bi]
 |n+1=>by
  show iF (upto (λ_ e=>iF e) a n)=_
  rw [Kh a n]
  unfold iF jt
  have:=jn a
  have h2:a.nat/2^n<=a.nat:=Nat.div_le_self _ _
  rw [oc (by omega),Nat.div_div_eq_div_mul,<-Nat.pow_succ]
def KJ (s:ef):Bool:=decide (s.1.2.2.2.1=0/\0<=s.1.2.2.1/\s.1.2.2.1<=1000000/\s.2.1.length=4)
def Ou (s:ef):qG:=(((),(),()),lst (jt (elemOf s.2.1) s.1.2.2.1.toNat),s.2.2.1,())
theorem amN:bh vZ KJ (Ov Ou):=by
 rintro ⟨⟨⟨⟩,⟨⟩,k,i,⟨⟩⟩,⟨l,o,⟨⟩⟩⟩ h
 have h':=bm h
 dsimp only at h'
 obtain ⟨rfl,h0,h1,hl⟩:=h'
 obtain ⟨a,rfl⟩:∃ a,l=lst a:=⟨elemOf l,(cP hl).symm⟩
 have:=(bf (T:=vZ) (λi a=>((((),(),k,(i:Int),()),lst a,o,()):ef)) (λ_ e=>iF e)
  (λa=>(⟨(.exit 0,nO),(((),(),()),lst a,o,())⟩:aZ)) k.toNat a (λ_ _=>True) trivial (λi a hi _=>⟨?_,trivial⟩) (λa _=> ?_)).1
 ·rw [Kh] at this
  obtain ⟨m,hm⟩:=this
  exact ⟨m,_,hm,rfl⟩
 ·refine (OT.ak (ag (by dsimp only;omega))).trans ((ae ?_).trans rfl)
  simp only [aA,aI,aJ,aw]
  exact ⟨rfl,rfl,aS (by omega)⟩
 ·exact OT.au (bq (by dsimp only;omega))
def qF (x:B0):Bool:=decide (0<=x.1.2.1/\x.1.2.1<=1000000)
def Xi (x:B0):OT kR.Y:=.ok ⟨oO,((jt x.1.1 x.1.2.1.toNat,()),())⟩
theorem amM:aa aj 176 (kR.az qF Xi):=Xg KJ Ou amN _ _ λx oy hp ho=>by
 rw [<-ho]
 clear ho
 obtain ⟨⟨a,k,⟨⟩⟩,⟨⟩⟩:=x
 have hp':0<=k/\k<=1000000:=bm hp
 refine (ae ?_).trans ?_
 ·simp only [aA,aI,aJ,aw]
  exact ⟨ag ⟨rfl,hp'.1,hp'.2,rfl⟩,rfl,rfl,rfl⟩
 ·show some (⟨oO,((elemOf (lay [0,0,0,0] (lst (jt a k.toNat)) 4 0),()),())⟩:kR.Y)=some ⟨oO,((jt a k.toNat,()),())⟩
  rw [aIE _ _ rfl rfl]
  rfl
def tU:bt:=(kR.az qF Xi)
theorem R9:aa aj 176 tU:=amM
theorem R8:ax tU:=av
def Zu:Env:=aq 176 tU avA
theorem Aq:bV aj te Zu:=aU follows Mj R9 R8
def bC (k:ab):Bool:=(k.w0==0&&(k.w1==0&&(k.w2==0&&(k.w3==0&&true))))
def aHp (k:ab):Bool:=(k.w0&&&1==1)
theorem dI (k:ab):bC k=Nat.beq k.nat 0:=by
 unfold bC Sx.ab.nat
 have e:∀ x:UInt64,(x==0)=decide (x.toNat=0):=λx=>by
  by_cases h:x=0
  ·subst h;rfl
  ·have h':¬x.toNat=0:=λh'=>h (UInt64.toNat_inj.1 h')
   rw [bq h']
   simpa using h
 rw [e,e,e,e]
 generalize k.w0.toNat=a
 generalize k.w1.toNat=b
 generalize k.w2.toNat=c
 generalize k.w3.toNat=d
 by_cases h:a=0/\b=0/\c=0/\d=0
 ·obtain ⟨rfl,rfl,rfl,rfl⟩:=h
  rfl
 ·have h1:¬(a+18446744073709551616*(b+18446744073709551616*(c+18446744073709551616*d))=0):=λh1=>h (by omega)
  have h2:Nat.beq (a+18446744073709551616*(b+18446744073709551616*(c+18446744073709551616*d))) 0=false:=by
   cases hb:Nat.beq (a+18446744073709551616*(b+18446744073709551616*(c+18446744073709551616*d))) 0
   ·rfl
   ·exact absurd (aY hb) h1
  rw [h2]
  by_cases ha:a=0
  ·by_cases hb:b=0
   ·by_cases hc:c=0
    ·have hd:¬d=0:=λhd=>h ⟨ha,hb,hc,hd⟩
     simp [hd]
    ·simp [hc]
   ·simp [hb]
  ·simp [ha]
theorem axF (k:ab):aHp k=Nat.beq (k.nat%2) 1:=by
 have e:(k.w0&&&1).toNat=k.w0.toNat%2:=by
  rw [UInt64.toNat_and]
  exact Nat.and_two_pow_sub_one_eq_mod k.w0.toNat 1
 have e2:k.nat%2=k.w0.toNat%2:=by
  unfold Sx.ab.nat
  rw [abU]
 rw [e2,<-e]
 unfold aHp
 by_cases h:k.w0&&&1=1
 ·rw [h];rfl
 ·have h':¬(k.w0&&&1).toNat=1:=λh'=>h (UInt64.toNat_inj.1 h')
  have h2:Nat.beq (k.w0&&&1).toNat 1=false:=by
   cases hb:Nat.beq (k.w0&&&1).toNat 1
   ·rfl
   ·exact absurd (aY hb) h'
  rw [h2]
  simpa using h
theorem WN (k:ab):(iF k).nat=k.nat/2:=by
 have:=jn k
 exact oc (by omega)
def axq (p:Nat):Nat->ab->ab->ab->ab
 |0,o,_,_=>o
 |n+1,o,x,k=>cond (bC k) o (axq p n (cond (aHp k) (aR p o x) o) (aR p x x) (iF k))
def aAH (p:Nat):Nat->Nat->Nat->Nat->Nat
 |0,o,_,_=>o
 |n+1,o,x,k=>cond (Nat.beq k 0) o (aAH p n (cond (Nat.beq (k%2) 1) (o*x%p) o) (x*x%p) (k/2))
theorem apY {p:Nat} (hp:0<p/\p<57896044618658097711785492504343953926634992332820282019728792003956564819968):∀ (n:Nat) (o x k:ab),axq p n o x k=ofN (aAH p n o.nat x.nat k.nat)
 |0,o,x,k=>(Bi o).symm
 |n+1,o,x,k=>by
  have e:∀ a b:ab,(aR p a b).nat=a.nat*b.nat%p:=λa b=>cv hp
  simp only [axq,aAH,dI,axF]
  cases Nat.beq k.nat 0
  ·simp only [aT]
   rw [apY hp n,e,WN]
   cases Nat.beq (k.nat%2) 1
   ·rfl
   ·simp only [aK,e]
  ·simp only [aK]
   exact (Bi o).symm
def lv (p:Nat) (a k:ab):ab:=cond (Nat.beq p 0) ⟨0,0,0,0⟩ (ofN (aAH p 256 1 (a.nat%p) k.nat))
theorem Sk {p:Nat} (hp:0<p) (a k:ab):lv p a k=ofN (aAH p 256 1 (a.nat%p) k.nat):=by
 unfold lv
 cases p with
 |zero=>exact absurd hp (Nat.lt_irrefl _)
 |succ p=>rfl
def xj:af:=⟨L3,[],true,0,false⟩
abbrev adj:Type:=LW
def aEz:Shape:=⟨40,[eD,uC,(6,fE),(7,gv),(9,CE)],[iI,pa,lB,(3,Pd),Cy],0,true⟩
abbrev jz:Type:=(Unit×LR)×ap×ap×ap×MV×uA
def B1:Shape:=⟨40,[jU,(9,ir)],uD,0,true⟩
abbrev Ep:Type:=mY
def aEB (c0:ap) (c1:ap) (c2:ap) (c3_0:UInt64) (c3_1:UInt64) (c3_2:UInt64) (c3_3:UInt64) (c3_4:Int) (c3_5:UInt64) (c3_6:UInt64) (c3_7:UInt64) (c3_8:UInt64) (c3_9:UInt64) (c3_10:UInt64) (c4:ap):OT (Sum jz aZ):=
 let z0:Nat:=List.length c1
 let z1:Bool:=decide (4<=z0)
 let z2:UInt64:=List.getD c1 0 0
 let z3:UInt64:=List.getD c1 1 0
 let z4:UInt64:=List.getD c1 2 0
 let z5:UInt64:=List.getD c1 3 0
 let z6:Nat:=List.length c4
 let z7:Nat:=List.length c0
 let z8:Bool:=decide (4<=z7)
 let z9:ab:= {w0:=c3_0,w1:=c3_1,w2:=c3_2,w3:=c3_3}
 let z10:iW:=(z9,c3_4,c3_5,c3_6,{w0:=c3_7,w1:=c3_8,w2:=c3_9,w3:=c3_10})
 let z11:ab:= {w0:=List.getD c4 0 0,w1:=List.getD c4 1 0,w2:=List.getD c4 2 0,w3:=List.getD c4 3 0}
 let z12:ab:= {w0:=List.getD c0 0 0,w1:=List.getD c0 1 0,w2:=List.getD c0 2 0,w3:=List.getD c0 3 0}
 let z13:rD:=(z12,())
 let z14:Bool:=gR ((z10,z12,z13),())
 let z15:Bool:=decide ((4/1:Nat)+0<=z7)
 let z16:Bool:=decide ((4/1:Nat)+0<=z0)
 let z17:Nat:=ab.nat z9
 let z18:ab:=aR z17 z12 z12
 let z19:ap:=List.set (List.set (List.set (List.set c0 0 z18.w0) 1 z18.w1) 2 z18.w2) 3 z18.w3
 let z20:ab:=iF {w0:=z2,w1:=z3,w2:=z4,w3:=z5}
 let z21:ap:=List.set (List.set (List.set (List.set c1 0 z20.w0) 1 z20.w1) 2 z20.w2) 3 z20.w3
 let z22:ab:=aR z17 z11 z12
 (gd [z1] (.br (!(z2==(0:UInt64)&&(z3==(0:UInt64)&&(z4==(0:UInt64)&&(z5==(0:UInt64)&&true)))))
 (gd [decide (0<z0)] (.br (z2&&&(1:UInt64)==(1:UInt64))
  (gd [decide (4<=z6),z8,gR ((z10,z11,z13),()),decide ((4/1:Nat)+0<=z6),z8,z8,z14,z15,z1,z16] (.ok (.inl (((),(),(),(),(),()),z19,z21,c2,(c3_0,c3_1,c3_2,c3_3,c3_4,c3_5,c3_6,c3_7,c3_8,c3_9,c3_10,()),List.set (List.set (List.set (List.set c4 0 z22.w0) 1 z22.w1) 2 z22.w2) 3 z22.w3,()))))
  (gd [z8,z8,z14,z15,z1,z16] (.ok (.inl (((),(),(),(),(),()),z19,z21,c2,(c3_0,c3_1,c3_2,c3_3,c3_4,c3_5,c3_6,c3_7,c3_8,c3_9,c3_10,()),c4,()))))))
 (.ok (.inr ⟨(.exit 0,B1),(((),(),()),c2,c4,())⟩))))
def Sc (s:jz):OT (Sum jz aZ):=aEB s.2.1 s.2.2.1 s.2.2.2.1 s.2.2.2.2.1.1 s.2.2.2.2.1.2.1 s.2.2.2.2.1.2.2.1 s.2.2.2.2.1.2.2.2.1 s.2.2.2.2.1.2.2.2.2.1 s.2.2.2.2.1.2.2.2.2.2.1 s.2.2.2.2.1.2.2.2.2.2.2.1 s.2.2.2.2.1.2.2.2.2.2.2.2.1 s.2.2.2.2.1.2.2.2.2.2.2.2.2.1 s.2.2.2.2.1.2.2.2.2.2.2.2.2.2.1 s.2.2.2.2.1.2.2.2.2.2.2.2.2.2.2.1 s.2.2.2.2.2.1
def asI (g0_0:jz->Ep) (s:jz):OT aZ:=(.ok ⟨(.exit 0,B1),g0_0 s⟩)
def Eo:aL:=⟨iq,[],false⟩
section
variable (ok0:jz->Bool) (g0_0:jz->Ep)
def aBd (a0:Int) (a1:ab) (a2:ab):OT xj.Y:=
 let z0:iW:=bB (Int.toNat a0)
 let z1:=z0.fst
 let z2:ab:=ofN (ab.nat a1%ab.nat z1)
 let z3:=z0.snd
 let z4:=z3.snd
 let z5:=z4.snd
 let z6:=z5.snd
 let z7:jz:=(((),(),(),(),(),()),[z2.w0,z2.w1,z2.w2,z2.w3],[a2.w0,a2.w1,a2.w2,a2.w3],[(0:UInt64),(0:UInt64),(0:UInt64),(0:UInt64)],(z1.w0,z1.w1,z1.w2,z1.w3,z3.fst,z4.fst,z5.fst,z6.w0,z6.w1,z6.w2,z6.w3,()),[(1:UInt64),(0:UInt64),(0:UInt64),(0:UInt64)],())
 let z8:=(g0_0 z7).snd
 let z9:=z8.snd.fst
 let z10:=z8.fst
 let z11:ap:=lay z10 z9 4 (0:UInt64)
 (.br (ac a0)
 (gd [il ((z0,a1,()),()),ok0 z7,decide (4<=List.length z9),decide ((4/1:Nat)+0<=List.length z10),decide (4<=List.length z11)] (.ok ⟨Eo,(({w0:=List.getD z11 0 0,w1:=List.getD z11 1 0,w2:=List.getD z11 2 0,w3:=List.getD z11 3 0},()),())⟩))
 (.ok ⟨Eo,(({w0:=0,w1:=0,w2:=0,w3:=0},()),())⟩))
theorem asF (h0:bh Sc ok0 (asI g0_0)) (pre:adj->Bool) (F:adj->OT xj.Y) (hF:∀ (x:adj) oy,pre x=true->(F x).run=some oy->(aBd ok0 g0_0 x.1.1 x.1.2.1 x.1.2.2.1).run=some oy):aa aj 69 (xj.az pre F):=
 di Aq 69 Tryz.f69 xj [Eo] (lg Aq 0 aEz [(0,B1)] none none Sc bD h0 bD) (λx=>aBd ok0 g0_0 x.1.1 x.1.2.1 x.1.2.2.1) hF
end
theorem asG {x0 x1 x2 x3 x5 x6 x7 x8 x9 x10:UInt64} {x4:Int} {c2:List UInt64} (hn:lk (⟨x0,x1,x2,x3⟩,x4,x5,x6,⟨x7,x8,x9,x10⟩)=true):∀ (n:Nat) (o x k:ab),k.nat<2^n->
 ∃ m,cW Sc m (((),(),(),(),(),()),lst x,lst k,c2,(x0,x1,x2,x3,x4,x5,x6,x7,x8,x9,x10,()),lst o,())=some ⟨(.exit 0,B1),(((),(),()),c2,lst (axq (ab.mk x0 x1 x2 x3).nat n o x k),())⟩:=by
 intro n
 induction n with
 |zero=>
  intro o x k hk
  have hz:(!bC k)=false:=by
   rw [dI,show k.nat=0 by omega]
   rfl
  exact ⟨1,aV ((ae rfl).trans (OT.au hz))⟩
 |succ n ih=>
  intro o x k hk
  cases hz:bC k
  ·have hk2:(iF k).nat<2^n:=by
    rw [WN]
    rw [Nat.pow_succ] at hk
    omega
   have hz':(!bC k)=true:=by rw [hz];rfl
   cases ho:aHp k
   ·obtain ⟨m,hm⟩:=ih o (aR (ab.mk x0 x1 x2 x3).nat x x) (iF k) hk2
    simp only [axq,hz,ho,aT]
    refine ⟨m+1,bN ?_ hm⟩
    refine (ae rfl).trans ((OT.ak hz').trans ((ae rfl).trans ((OT.au ho).trans ((ae ?_).trans rfl))))
    simp only [aA,aI,aJ,aw]
    exact ⟨rfl,rfl,hn,rfl,rfl,rfl⟩
   ·obtain ⟨m,hm⟩:=ih (aR (ab.mk x0 x1 x2 x3).nat o x) (aR (ab.mk x0 x1 x2 x3).nat x x) (iF k) hk2
    simp only [axq,hz,ho,aT,aK]
    refine ⟨m+1,bN ?_ hm⟩
    refine (ae rfl).trans ((OT.ak hz').trans ((ae rfl).trans ((OT.ak ho).trans ((ae ?_).trans rfl))))
    simp only [aA,aI,aJ,aw]
    exact ⟨rfl,rfl,hn,rfl,rfl,rfl,hn,rfl,rfl,rfl⟩
  ·simp only [axq,hz,aK]
   have hz':(!bC k)=false:=by rw [hz];rfl
   exact ⟨1,aV ((ae rfl).trans (OT.au hz'))⟩
def aIl (s:jz):MX:=(⟨s.2.2.2.2.1.1,s.2.2.2.2.1.2.1,s.2.2.2.2.1.2.2.1,s.2.2.2.2.1.2.2.2.1⟩,s.2.2.2.2.1.2.2.2.2.1,s.2.2.2.2.1.2.2.2.2.2.1,s.2.2.2.2.1.2.2.2.2.2.2.1,⟨s.2.2.2.2.1.2.2.2.2.2.2.2.1,s.2.2.2.2.1.2.2.2.2.2.2.2.2.1,s.2.2.2.2.1.2.2.2.2.2.2.2.2.2.1,s.2.2.2.2.1.2.2.2.2.2.2.2.2.2.2.1⟩)
def Sb (s:jz):Bool:=lk (aIl s)&&decide (s.2.1.length=4/\s.2.2.1.length=4/\s.2.2.2.2.2.1.length=4)
def asH (s:jz):Ep:=(((),(),()),s.2.2.2.1,lst (axq (aIl s).1.nat 256 (elemOf s.2.2.2.2.2.1) (elemOf s.2.1) (elemOf s.2.2.1)),())
theorem aEA:bh Sc Sb (asI asH):=by
 rintro ⟨⟨⟨⟩,⟨⟩,⟨⟩,⟨⟩,⟨⟩,⟨⟩⟩,⟨c0,c1,c2,⟨x0,x1,x2,x3,x4,x5,x6,x7,x8,x9,x10,⟨⟩⟩,c4,⟨⟩⟩⟩ h
 simp only [Sb,aw,decide_eq_true_eq,aIl] at h
 obtain ⟨hn,h0,h1,h4⟩:=h
 obtain ⟨x,rfl⟩:∃ a,c0=lst a:=⟨elemOf c0,(cP h0).symm⟩
 obtain ⟨k,rfl⟩:∃ a,c1=lst a:=⟨elemOf c1,(cP h1).symm⟩
 obtain ⟨o,rfl⟩:∃ a,c4=lst a:=⟨elemOf c4,(cP h4).symm⟩
 obtain ⟨m,hm⟩:=asG (c2:=c2) hn 256 o x k (jn k)
 exact ⟨m,_,hm,rfl⟩
def ahF (_:adj):Bool:=true
def aBe (x:adj):OT xj.Y:=.br (ac x.1.1) (.ok ⟨Eo,((lv (pS x.1.1) x.1.2.1 x.1.2.2.1,()),())⟩) (.ok ⟨Eo,((⟨0,0,0,0⟩,()),())⟩)
theorem ay2 {p:Nat} (hp:0<p/\p<57896044618658097711785492504343953926634992332820282019728792003956564819968) (a k:ab):elemOf (lay [0,0,0,0] (lst (axq p 256 ⟨1,0,0,0⟩ (ofN (a.nat%p)) k)) 4 0)=lv p a k:=by
 rw [aIE _ _ rfl rfl,am4,apY hp,cv hp,Sk hp.1]
 rfl
theorem asE:aa aj 69 (xj.az ahF aBe):=asF Sb asH aEA _ _ λx oy hp ho=>by
 rw [<-ho]
 clear ho
 obtain ⟨⟨s,a,k,⟨⟩⟩,⟨⟩⟩:=x
 cases hs:ac s
 ·exact (OT.au hs).trans (OT.au (b:=ac s) hs).symm
 ·have hn:=jm hs
  have hfin:=ay2 (eP hs) a k
  have hn2:lk (bB s.toNat)=true:=hn
  refine (OT.ak hs).trans (Eq.trans ?_ (OT.ak (b:=ac s) hs).symm)
  simp only [<-hfin]
  refine (ae ?_).trans rfl
  simp only [aA,aI,aJ,aw]
  refine ⟨hn,?_,rfl,rfl,rfl⟩
  show (lk _&&decide _)=true
  rw [aw]
  exact ⟨hn,ag ⟨rfl,rfl,rfl⟩⟩
def KK:bt:=(xj.az ahF aBe)
theorem amR:aa aj 69 KK:=asE
theorem amQ:ax KK:=av
def aCk:Env:=aq 69 KK Zu
theorem ajy:bV aj te aCk:=aU follows Aq amR amQ
def xh:af:=⟨[aC,dw],[],true,0,false⟩
abbrev ada:Type:=aiF
def qE:aL:=⟨kZ,[],false⟩
def aBb (a0:Int) (a1:ab):OT xh.Y:=
 let z0:Bool:=ac a0
 let z1:iW:=bB (Int.toNat a0)
 let z2:=z1.fst
 let z3:ab:=ofN (ab.nat a1%ab.nat z2)
 let z4:ab:= {w0:=0,w1:=0,w2:=0,w3:=0}
 (.br (z0)
 (gd [il ((z1,a1,()),())] (.br (z3.w0==(0:UInt64)&&(z3.w1==(0:UInt64)&&(z3.w2==(0:UInt64)&&(z3.w3==(0:UInt64)&&true))))
  (.ok ⟨qE,((z4,(10:Int),()),())⟩)
  (.br (z0)
   (.ok ⟨qE,((lv (pS a0) a1 (ng z2 {w0:=2,w1:=0,w2:=0,w3:=0}).fst,(0:Int),()),())⟩)
   (.ok ⟨qE,((z4,(0:Int),()),())⟩))))
 (.ok ⟨qE,((z4,(20:Int),()),())⟩))
theorem asA (pre:ada->Bool) (F:ada->OT xh.Y) (hF:∀ (x:ada) oy,pre x=true->(F x).run=some oy->(aBb x.1.1 x.1.2.1).run=some oy):aa aj 68 (xh.az pre F):=
 di ajy 68 Tryz.f68 xh [qE] bD (λx=>aBb x.1.1 x.1.2.1) hF
def CO (p:Nat) (a:ab):ab:=ofN (aAH p 256 1 (a.nat%p) (p-2))
theorem aF9 {s:Int} (h:ac s=true):2<=pS s:=by
 rcases cb h with rfl|rfl|rfl|rfl<;>decide+kernel
theorem aEf {s:Int} (h:ac s=true) (a:ab):lv (pS s) a (ng (bB s.toNat).1 ⟨2,0,0,0⟩).1=CO (pS s) a:=by
 rw [Sk (eP h).1]
 unfold CO
 have h2:2<=(bB s.toNat).1.nat:=aF9 h
 rw [AA (show (ab.mk 2 0 0 0).nat<=_ from h2)]
 rfl
theorem avY {p:Nat} (hp:0<p/\p<57896044618658097711785492504343953926634992332820282019728792003956564819968) (n:Nat):bC (ofN (n%p))=Nat.beq (n%p) 0:=by
 rw [dI,cv hp]
def ahE (_:ada):Bool:=true
def aBc (x:ada):OT xh.Y:=.br (ac x.1.1) (.br (Nat.beq (x.1.2.1.nat%pS x.1.1) 0) (.ok ⟨qE,((⟨0,0,0,0⟩,(10:Int),()),())⟩) (.ok ⟨qE,((CO (pS x.1.1) x.1.2.1,(0:Int),()),())⟩))
 (.ok ⟨qE,((⟨0,0,0,0⟩,(20:Int),()),())⟩)
theorem asz:aa aj 68 (xh.az ahE aBc):=asA _ _ λx oy hp ho=>by
 rw [<-ho]
 clear ho
 obtain ⟨⟨s,a,⟨⟩⟩,⟨⟩⟩:=x
 cases hs:ac s
 ·exact (OT.au hs).trans (OT.au (b:=ac s) hs).symm
 ·have hz:bC (ofN (a.nat%pS s))=Nat.beq (a.nat%pS s) 0:=avY (eP hs) _
  refine (OT.ak hs).trans (Eq.trans ((ae ?_).trans ?_) (OT.ak (b:=ac s) hs).symm)
  ·simp only [aA,aI,aJ]
   exact jm hs
  ·cases hb:Nat.beq (a.nat%pS s) 0
   ·rw [hb] at hz
    refine (OT.au hz).trans ((OT.ak hs).trans (Eq.trans ?_ (OT.au rfl).symm))
    simp only [aEf hs]
   ·rw [hb] at hz
    exact (OT.ak hz).trans (OT.ak rfl).symm
def KH:bt:=(xh.az ahE aBc)
theorem amK:aa aj 68 KH:=asz
theorem amJ:ax KH:=av
def aCj:Env:=aq 68 KH aCk
theorem ajx:bV aj te aCj:=aU follows ajy amK amJ
end
end Go.Proofs.YthnnknnbfhkomaaGreat
