/- A symbolic machine for Go code over plain data, and functions of the program as it shows them. No statement is proved in this file. -/
import Derived.Test.YtohjofabochgfaaGreatProg
import Derived.KernelRfl
import Derived.Laws.Externs
import Derived.Lib.Mul64
import Derived.Test.YtohjofabochgfaaGreatXb
set_option linter.unusedSimpArgs false
set_option linter.unusedVariables false
set_option linter.unusedSectionVars false

namespace Go.Proofs.YtohjofabochgfaaGreat
namespace Sx
open Go
def Out.after (u:List (Nat×Ch)):Out->Out
 |.ret e=>.ret ⟨e.v,u++e.upd⟩
 |.pan v u'=>.pan v (u++u')
def aGj (c0 e0:Nat) (vs:List SV) (j c e:Nat) (t:Ty) (xs:List t.T):List (Nat×Ch):= [(c,⟨e+1,.row .u8 []⟩),(c0,⟨e0,.cells (vs.set j (.lst t xs))⟩)]
theorem SJ {α β:Type} {f:α->β} {x:OT α} {a:α} (h:x.run=some a):(x.map f).run=some (f a):=by
 induction x with
 |ok b=>cases h;rfl
 |br b u v hu hv=>
  cases b
  ·exact hv h
  ·exact hu h
 |fail=>cases h
theorem du.trans {R R1 R2:Ctx} {w w':World} {u u':List (Nat×Ch)} (h:du R R1 w u) (h':du R1 R2 w' u'):du R R2 w' (u++u'):=
 ⟨h.ext.trans h'.ext,by rw [h'.hp,h.hp,gB],h'.mem⟩
theorem afS {R:Ctx} {w:World} (hm:dk R w) {c e:Nat} {t:Ty} {xs:List t.T} (hc:R.hp c=some ⟨e,.row t xs⟩):
 ∃ R1,du R R1 w [(c,⟨e+1,.row .u8 []⟩)]/\∀ v,R.own c e v->SV.rel R1 (.lst t xs) v:=by
 have h0:=hm.ch c _ hc
 cases hσ:R.σ c with
 |none=>
  simp only [eH,hσ] at h0
  obtain ⟨_,hl,rfl⟩:=h0
  have hx:R.Ext (R.upd c ⟨e+1,.row .u8 []⟩):=⟨λ_ _ h=>h,rfl,λc' ch' hc'=>by
   by_cases h1:c'=c
   ·subst h1
    rw [hc] at hc'
    cases hc'
    exact ⟨⟨e+1,.row .u8 []⟩,by simp only [Ctx.upd,if_true],Nat.le_succ e,λe'=>absurd e' (by simp)⟩
   ·exact ⟨ch',by simp only [Ctx.upd,if_neg h1,hc'],Nat.le_refl _,λ_=>⟨rfl,rfl⟩⟩⟩
  refine ⟨R.upd c ⟨e+1,.row .u8 []⟩,⟨hx,rfl,?_⟩,λv hv=> ?_⟩
  ·refine dk.turn hm hx rfl rfl (λ_ _=>rfl) w.heap.size (λ_ _ _=>rfl) ⟨hm.Um,hm.Uh,λn ch L hn h1 h2 h3=> ?_⟩ ?_ (λL h2=> ?_)
   ·have:=hm.lt h1 h2 h3;omega
   ·simp only [eH,Ctx.upd,hσ]
    exact ⟨by decide,by simp,trivial⟩
   ·have h2:R.σ c=some L:=h2
    rw [hσ] at h2;cases h2
  ·have hp:=Ctx.cG hc hv
   obtain ⟨_,_,ad,cap,rfl,h4,h5⟩:=Ctx.cK hc hp
   simp only [SV.rel,Rep]
   exact ⟨Nat.zero_le _,ad,cap,rfl,h4,.inl trivial⟩
 |some L=>
  simp only [eH,hσ] at h0
  obtain ⟨hpos,hl,hF,hU,arr,E,k1,k2,k3,k4⟩:=h0
  have ha:=SN hm hc hσ (w₁:=w) (λ_ _=>rfl) k1 ⟨rfl,rfl,rfl⟩
  refine ⟨_,ha,λv hv=> ?_⟩
  have hp:=Ctx.cG hc hv
  obtain ⟨_,_,ad,cap,rfl,h4,h5⟩:=Ctx.cK hc hp
  rw [hσ] at h5
  simp only [Chunk.shape,Nat.zero_mul,Nat.add_zero] at h4 h5
  simp only [SV.rel,Rep]
  refine ⟨hl,ad,cap,rfl,h4,?_⟩
  by_cases hx:xs= []
  ·exact .inl hx
  ·have hxl:0<xs.length:=List.length_pos_iff.2 hx
   have had:=h5.2 (by omega)
   subst had
   exact .inr ⟨L.block,L.base,arr,E,(0,0),rfl,by simp only [Ctx.lY,if_true],by omega,λi hi=>bN ha.ext.F _ _ _ (k4 i hi)⟩
theorem B5 {R:Ctx}:∀ {l:List SV} {vs:List Value} (j:Nat) (x:SV),SV.bL R l vs->(∀ v,vs[j]? =some v->SV.rel R x v)->SV.bL R (l.set j x) vs
 | [],_,_,_,h,_=>h
 |y::l,vs,0,x,h,hx=>by
  simp only [SV.bL] at h
  obtain ⟨v,r,rfl,h1,h2⟩:=h
  simp only [List.set_cons_zero,SV.bL]
  exact ⟨v,r,rfl,hx v rfl,h2⟩
 |y::l,vs,j+1,x,h,hx=>by
  simp only [SV.bL] at h
  obtain ⟨v,r,rfl,h1,h2⟩:=h
  simp only [List.set_cons_succ,SV.bL]
  exact ⟨v,r,rfl,h1,B5 j x h2 λu hu=>hx u hu⟩
theorem abJ {R:Ctx}:∀ {l:List SV} {vs:List Value} {j:Nat} {x:SV},SV.bL R l vs->l[j]? =some x->∃ v,vs[j]? =some v/\SV.rel R x v
 |y::l,vs,0,x,h,hx=>by
  simp only [SV.bL] at h
  obtain ⟨v,r,rfl,h1,h2⟩:=h
  cases hx
  exact ⟨v,rfl,h1⟩
 |y::l,vs,j+1,x,h,hx=>by
  simp only [SV.bL] at h
  obtain ⟨v,r,rfl,h1,h2⟩:=h
  exact abJ (j:=j) h2 hx
 | [],_,_,_,_,hx=>by cases hx
theorem ak0 {R:Ctx} {w:World} (hm:dk R w) {c0 e0 j c e:Nat} {vs:List SV} {t:Ty} {xs:List t.T} (h0:R.hp c0=some ⟨e0,.cells vs⟩) (hj:vs[j]? =some (.own c e)) (hc:R.hp c=some ⟨e,.row t xs⟩) (hne:c≠c0):
 ∃ R1,du R R1 w (aGj c0 e0 vs j c e t xs):=by
 obtain ⟨R1,ha,hrel⟩:=afS hm hc
 have hch:=hm.ch c0 _ h0
 simp only [eH] at hch
 obtain ⟨L,hL,hF,hU,arr,E,k1,k2,k3,k4,k5⟩:=hch
 have h0':R1.hp c0=some ⟨e0,.cells vs⟩:=by
  rw [ha.hp]
  show (if c0=c then _ else R.hp c0)=_
  rw [if_neg (λe=>hne e.symm)]
  exact h0
 have hch1:=ha.mem.ch c0 _ h0'
 simp only [eH] at hch1
 obtain ⟨L1,hL1,hF1,hU1,arr1,E1,q1,q2,q3,q4,q5⟩:=hch1
 obtain ⟨ch',hc1,hep,hsame⟩:=ha.ext.ch c0 _ h0
 have hL1':R1.σ c0=R.σ c0:=by
  rw [h0'] at hc1
  cases hc1
  exact (hsame rfl).2
 rw [hL1',hL] at hL1
 cases hL1
 rw [k1] at q1
 cases q1
 obtain ⟨v,hv,hvr⟩:=abJ k4 hj
 simp only [SV.rel] at hvr
 have hx:R1.Ext (R1.upd c0 ⟨e0,.cells (vs.set j (.lst t xs))⟩):=Ctx.aaM h0' (Nat.le_refl _) (λ_=>by simp only [Chunk.shape,List.length_set])
 refine ⟨R1.upd c0 ⟨e0,.cells (vs.set j (.lst t xs))⟩,ha.ext.trans hx,?_,?_⟩
 ·show (λn=>if n=c0 then some _ else R1.hp n)=_
  rw [ha.hp]
  rfl
 ·refine dk.turn ha.mem hx rfl rfl (λ_ _=>rfl) L.block (λ_ _ _=>rfl) ⟨hF1,hU1,λn ch2 L2 hn hn2 hm2 hs2 heq=>hn (ha.mem.apart n c0 _ _ L2 L hn2 h0' hm2 rfl hs2 (hL1'.trans hL) heq)⟩ ?_ (λL2 h2=> ?_)
  ·simp only [eH]
   refine ⟨L,hL1'.trans hL,hF1,hU1,arr,E,k1,k2,by rw [List.length_set];exact k3,?_,k5⟩
   refine SV.dz hx _ _ (B5 j _ q4 λu hu=> ?_)
   rw [hv] at hu
   cases hu
   exact hrel _ hvr.2
  ·have h3:R1.σ c0=some L2:=h2
   rw [hL1',hL] at h3
   cases h3
   rfl
end Sx
end Go.Proofs.YtohjofabochgfaaGreat

namespace Go.Proofs.YtohjofabochgfaaGreat
namespace Sx
open Go
def ame (u:List (Nat×Ch)) (c e:Nat):Option Chunk:=match dJ asz u c with
 |some ⟨ep,b⟩=>cond (Nat.beq ep e) (some b) none
 |none=>none
theorem Py {u:List (Nat×Ch)} {c e:Nat} {b:Chunk} (h:ame u c e=some b) {hp:Hp}:dJ hp u c=some ⟨e,b⟩:=by
 unfold ame at h
 split at h
 ·rename_i ep b' hq
  cases hb:Nat.beq ep e
  ·rw [hb] at h;cases h
  ·rw [hb] at h
   cases h
   rw [Nat.eq_of_beq_eq_true hb] at hq
   by_cases hin:c ∈ bp u
   ·rw [Su u hin (hp':=asz)];exact hq
   ·rw [dp u hin] at hq;cases hq
 ·cases h
def hop (u:List (Nat×Ch)):List Nat->SV->Option (Nat×Nat)
 | [],.ptr c e 0 0=>some (c,e)
 | [],.iface _ (.ptr c e 0 0)=>some (c,e)
 |i::r,.ptr c e 0 0=>match ame u c e with
  |some (.cells vs)=>hop u r (vs.getD i .bF)
  |_=>none
 |i::r,.iface _ (.ptr c e 0 0)=>match ame u c e with
  |some (.cells vs)=>hop u r (vs.getD i .bF)
  |_=>none
 |_,_=>none
def aGZ:SV->SV
 |.tup (x::_)=>x
 |x=>x
def aH0 (path:List Nat) (j:Nat) (v:SV) (u:List (Nat×Ch)):List (Nat×Ch):=
 match hop u path (aGZ v) with
 |some (c0,e0)=>match ame u c0 e0 with
  |some (.cells vs)=>match vs[j]? with
   |some (.own c e)=>match ame u c e with
    |some (.row t xs)=>cond (Nat.beq c c0) [] (aGj c0 e0 vs j c e t xs)
    |_=> []
   |_=> []
  |_=> []
 |none=> []
def Out.aIi (path:List Nat) (j:Nat):Out->Out
 |.ret e=>.ret ⟨e.v,e.upd++aH0 path j e.v e.upd⟩
 |.pan v u=>.pan v u
def vU (path:List Nat) (j:Nat) (s:bw):bw:=⟨s.mod,λd args hp=>(s.f d args hp).map (Out.aIi path j)⟩
theorem al5 {R R':Ctx} {w:World} {path:List Nat} {j:Nat} {v:SV} {u:List (Nat×Ch)} (h:du R R' w u):∃ R1,du R' R1 w (aH0 path j v u):=by
 unfold aH0
 split
 ·rename_i c0 e0 _
  split
  ·rename_i vs h0
   split
   ·rename_i c e hj
    split
    ·rename_i t xs hc
     cases hb:Nat.beq c c0
     ·have hne:c≠c0:=λe=>by subst e;simp at hb
      exact ak0 h.mem (by rw [h.hp];exact Py h0) hj (by rw [h.hp];exact Py hc) hne
     ·exact ⟨R',du.nothing h.mem⟩
    ·exact ⟨R',du.nothing h.mem⟩
   ·exact ⟨R',du.nothing h.mem⟩
  ·exact ⟨R',du.nothing h.mem⟩
 ·exact ⟨R',du.nothing h.mem⟩
theorem BU {P:Program} {f:FuncId} {s:bw} {path:List Nat} {j:Nat} (h:aa P f s):aa P f (vU path j s):=by
 refine ⟨λR w d args vs out hm hr hrun=> ?_⟩
 simp only [vU] at hrun
 obtain ⟨out',h1,rfl⟩:=OT.run_map hrun
 have hpost:∀ en w',jl R out' en w'->jl R (Out.aIi path j out') en w':=λen w' hp=>by
  cases out' with
  |ret q=>
   obtain ⟨v,R',h2,h3,h4⟩:=hp
   obtain ⟨R1,h5⟩:=al5 (path:=path) (j:=j) (v:=q.v) h3
   exact ⟨v,R1,h2,h3.trans h5,SV.abI h5.ext _ _ h4⟩
  |pan q u=>exact hp
 rcases h.calls R w d args vs out' hm hr h1 with ⟨fn,f1,f2,f3,hcl⟩|⟨v,w',hv,hp⟩
 ·exact .inl ⟨fn,f1,f2,f3,hcl.mono hpost⟩
 ·exact .inr ⟨v,w',hv,hpost _ _ hp⟩
theorem qA {s:bw} {path:List Nat} {j:Nat} (h:aC s):aC (vU path j s):=λd args hp hp' out hg hrun=>by
 simp only [vU] at hrun⊢
 obtain ⟨out',h1,rfl⟩:=OT.run_map hrun
 exact SJ (h d args hp hp' out' hg h1)
def auy (s0 s1:bw):bw:=⟨s0.mod||s1.mod,λd args hp=>match args.getD 0 .bF with
 |.ptr _ _ _ 1=>s1.f d args hp
 |_=>s0.f d args hp⟩
theorem az2 {P:Program} {f:FuncId} {s0 s1:bw} (h0:aa P f s0) (h1:aa P f s1):aa P f (auy s0 s1):=by
 refine ⟨λR w d args vs out hm hr hrun=> ?_⟩
 simp only [auy] at hrun
 split at hrun
 ·exact h1.calls R w d args vs out hm hr hrun
 ·exact h0.calls R w d args vs out hm hr hrun
theorem anu {s0 s1:bw} (h0:aC s0) (h1:aC s1):aC (auy s0 s1):=λd args hp hp' out hg hrun=>by
 simp only [auy] at hrun⊢
 split at hrun
 ·exact h1 d args hp hp' out hg hrun
 ·exact h0 d args hp hp' out hg hrun
def qB (k:Nat) (s:bw):bw:=⟨true,λd args hp=>match args.getD k .bF with
 |.own c e=>match eD hp c e with
  |some (.row t xs)=>(s.f d (args.set k (.lst t xs)) (dJ hp [(c,⟨e+1,.row .u8 []⟩)])).map (Out.after [(c,⟨e+1,.row .u8 []⟩)])
  |some _=>s.f d args hp
  |none=>.fail
 |_=>s.f d args hp⟩
theorem tj {P:Program} {f:FuncId} {s:bw} {k:Nat} (h:aa P f s):aa P f (qB k s):=by
 refine ⟨λR w d args vs out hm hr hrun=> ?_⟩
 simp only [qB] at hrun
 split at hrun
 ·rename_i c e harg
  split at hrun
  ·rename_i t xs hc
   obtain ⟨out',h1,rfl⟩:=OT.run_map hrun
   obtain ⟨R1,ha,hrel⟩:=afS hm (cm hc)
   rw [<-show R1.hp=dJ R.hp [(c,⟨e+1,.row .u8 []⟩)] from ha.hp] at h1
   have hr1:SV.bL R1 (args.set k (.lst t xs)) vs:=B5 k _ (SV.dz ha.ext _ _ hr) λv hv=>by
    have hk:args[k]? =some (.own c e):=by
     rw [List.getD_eq_getElem?_getD] at harg
     cases hq:args[k]? with
     |none=>rw [hq] at harg;cases harg
     |some y=>rw [hq] at harg;exact congrArg some harg
    obtain ⟨v',hv',hvr⟩:=abJ hr hk
    rw [hv] at hv'
    cases hv'
    simp only [SV.rel] at hvr
    exact hrel v hvr.2
   have hpost:∀ en w',jl R1 out' en w'->jl R (Out.after [(c,⟨e+1,.row .u8 []⟩)] out') en w':=λen w' hp=>by
    cases out' with
    |ret q=>
     obtain ⟨v,R',h2,h3,h4⟩:=hp
     exact ⟨v,R',h2,ha.trans h3,h4⟩
    |pan q u=>
     obtain ⟨v,R',h2,h3,h4⟩:=hp
     exact ⟨v,R',h2,ha.trans h3,h4⟩
   rcases h.calls R1 w d _ vs out' ha.mem hr1 h1 with ⟨fn,f1,f2,f3,hcl⟩|⟨v,w',hv,hp⟩
   ·exact .inl ⟨fn,f1,f2,f3,hcl.mono hpost⟩
   ·exact .inr ⟨v,w',hv,hpost _ _ hp⟩
  ·exact h.calls R w d args vs out hm hr hrun
  ·cases hrun
 ·exact h.calls R w d args vs out hm hr hrun
theorem mc {s:bw} {k:Nat} (h:aC s):aC (qB k s):=λd args hp hp' out hg hrun=>by
 simp only [qB] at hrun⊢
 split at hrun
 ·split at hrun
  ·rename_i t xs hc
   rw [bR hg hc]
   simp only
   obtain ⟨out',h1,rfl⟩:=OT.run_map hrun
   refine SJ (h d _ _ _ out' ⟨λn ch hn=> ?_,λn hn hn0=> ?_⟩ h1)
   ·simp only [dJ] at hn⊢
    split
    ·rename_i h2;rw [if_pos h2] at hn;exact hn
    ·rename_i h2;rw [if_neg h2] at hn;exact hg.jD _ _ hn
   ·simp only [dJ] at hn0⊢
    split
    ·rename_i h2;rw [if_pos h2] at hn0;cases hn0
    ·rename_i h2;rw [if_neg h2] at hn0;exact hg.free _ hn hn0
  ·rename_i b hnr hc
   rw [bR hg hc]
   cases b<;>first|exact h _ _ _ _ _ hg hrun|exact absurd rfl (hnr _ _)
  ·cases hrun
 ·exact h _ _ _ _ _ hg hrun
end Sx
end Go.Proofs.YtohjofabochgfaaGreat

namespace Go.Proofs.YtohjofabochgfaaGreat
open Sx Go
set_option maxRecDepth 100000
def aAU:TI:=⟨1,8,.other,[.bF],none⟩
theorem aGs:bf Tryz.prog 1 aAU:=by apply ah<;>first|exact trivial|kernel_rfl
def aAT:TI:=⟨1,8,.int .i64,[.int 0],some .int⟩
theorem aGr:bf Tryz.prog 2 aAT:=by apply ah<;>first|exact⟨by kernel_rfl,by kernel_rfl,by kernel_rfl⟩|kernel_rfl
def aAS:TI:=⟨1,8,.int .i64,[.int 0],some .int⟩
theorem aGq:bf Tryz.prog 3 aAS:=by apply ah<;>first|exact⟨by kernel_rfl,by kernel_rfl,by kernel_rfl⟩|kernel_rfl
def aAR:TI:=⟨1,1,.bool,[.bool false],some .bool⟩
theorem aGp:bf Tryz.prog 4 aAR:=by apply ah<;>first|exact⟨by kernel_rfl,by kernel_rfl,by kernel_rfl⟩|kernel_rfl
def afT:TI:=⟨1,1,.int .u8,[.u8 0],some .u8⟩
theorem aGo:bf Tryz.prog 5 afT:=by apply ah<;>first|exact⟨by kernel_rfl,by kernel_rfl,by kernel_rfl⟩|kernel_rfl
def aAQ:TI:=⟨1,1,.int .u8,[.u8 0],some .u8⟩
theorem aGn:bf Tryz.prog 6 aAQ:=by apply ah<;>first|exact⟨by kernel_rfl,by kernel_rfl,by kernel_rfl⟩|kernel_rfl
def aAP:TI:=⟨4,24,.struct [(0,2),(1,3),(2,4),(3,6)],[.int 0,.int 0,.bool false,.u8 0],some (.prod .int (.prod .int (.prod .bool .u8)))⟩
theorem aGm:bf Tryz.prog 7 aAP:=by apply ah<;>first|exact⟨by kernel_rfl,by kernel_rfl,by kernel_rfl⟩|kernel_rfl
def aAO:TI:=⟨4,24,.struct [(0,2),(1,3),(2,4),(3,6)],[.int 0,.int 0,.bool false,.u8 0],some (.prod .int (.prod .int (.prod .bool .u8)))⟩
theorem aGl:bf Tryz.prog 8 aAO:=by apply ah<;>first|exact⟨by kernel_rfl,by kernel_rfl,by kernel_rfl⟩|kernel_rfl
def aAN:TI:=⟨1,16,.str,[.str []],some .str⟩
theorem aGk:bf Tryz.prog 9 aAN:=by apply ah<;>first|exact⟨by kernel_rfl,by kernel_rfl,by kernel_rfl⟩|kernel_rfl
def aqu:TI:=⟨1,16,.str,[.str []],some .str⟩
theorem aDu:bf Tryz.prog 10 aqu:=by apply ah<;>first|exact⟨by kernel_rfl,by kernel_rfl,by kernel_rfl⟩|kernel_rfl
def aqt:TI:=⟨1,16,.str,[.str []],some .str⟩
theorem aDt:bf Tryz.prog 11 aqt:=by apply ah<;>first|exact⟨by kernel_rfl,by kernel_rfl,by kernel_rfl⟩|kernel_rfl
def aqs:TI:=⟨1,8,.int .u64,[.u64 0],some .u64⟩
theorem aDs:bf Tryz.prog 12 aqs:=by apply ah<;>first|exact⟨by kernel_rfl,by kernel_rfl,by kernel_rfl⟩|kernel_rfl
def aqr:TI:=⟨1,8,.ptr [("Error",183),("RuntimeError",184)],[.oD],none⟩
theorem aDr:bf Tryz.prog 15 aqr:=by apply ah<;>first|exact trivial|kernel_rfl
def aqq:TI:=⟨1,8,.ptr [("Error",185),("RuntimeError",186)],[.oD],none⟩
theorem aDq:bf Tryz.prog 16 aqq:=by apply ah<;>first|exact trivial|kernel_rfl
def aqp:TI:=⟨1,8,.ptr [("Align",187)],[.oD],none⟩
theorem aDp:bf Tryz.prog 17 aqp:=by apply ah<;>first|exact trivial|kernel_rfl
def aqo:TI:=⟨1,16,.iface,[.dq],none⟩
theorem aDo:bf Tryz.prog 20 aqo:=by apply ah<;>first|exact trivial|kernel_rfl
def aqn:TI:=⟨1,4,.int .i32,[.bF],none⟩
theorem aDn:bf Tryz.prog 21 aqn:=by apply ah<;>first|exact trivial|kernel_rfl
def abf:TI:=⟨1,24,.slice 41,[.emp],some (.list .elem)⟩
theorem aDm:bf Tryz.prog 22 abf:=by apply ah<;>first|exact⟨by kernel_rfl,by kernel_rfl,by kernel_rfl⟩|kernel_rfl
def aqm:TI:=⟨2,32,.struct [(0,3),(1,22)],[.int 0,.emp],some (.prod .int (.list .elem))⟩
theorem aDl:bf Tryz.prog 23 aqm:=by apply ah<;>first|exact⟨by kernel_rfl,by kernel_rfl,by kernel_rfl⟩|kernel_rfl
def aql:TI:=⟨2,32,.struct [(0,3),(1,22)],[.int 0,.emp],some (.prod .int (.list .elem))⟩
theorem aDk:bf Tryz.prog 24 aql:=by apply ah<;>first|exact⟨by kernel_rfl,by kernel_rfl,by kernel_rfl⟩|kernel_rfl
def abe:TI:=⟨1,24,.slice 5,[.emp],some (.list .u8)⟩
theorem aDj:bf Tryz.prog 25 abe:=by apply ah<;>first|exact⟨by kernel_rfl,by kernel_rfl,by kernel_rfl⟩|kernel_rfl
def aqk:TI:=⟨1,24,.slice 45,[.emp],some (.list (.prod .int (.prod .elem (.prod .elem (.prod .elem .bool)))))⟩
theorem aDi:bf Tryz.prog 26 aqk:=by apply ah<;>first|exact⟨by kernel_rfl,by kernel_rfl,by kernel_rfl⟩|kernel_rfl
def aqj:TI:=⟨1,8,.other,[.bF],none⟩
theorem aDh:bf Tryz.prog 27 aqj:=by apply ah<;>first|exact trivial|kernel_rfl
def aqi:TI:=⟨1,8,.other,[.bF],none⟩
theorem aDg:bf Tryz.prog 28 aqi:=by apply ah<;>first|exact trivial|kernel_rfl
def aqh:TI:=⟨1,8,.ptr [("Point",20),("Rest",25),("Scalar",22)],[.oD],none⟩
theorem aDf:bf Tryz.prog 29 aqh:=by apply ah<;>first|exact trivial|kernel_rfl
def aqg:TI:=⟨1,8,.int .i64,[.int 0],some .int⟩
theorem aDe:bf Tryz.prog 30 aqg:=by apply ah<;>first|exact⟨by kernel_rfl,by kernel_rfl,by kernel_rfl⟩|kernel_rfl
def aqf:TI:=⟨1,8,.other,[.bF],none⟩
theorem aDd:bf Tryz.prog 32 aqf:=by apply ah<;>first|exact trivial|kernel_rfl
def aqe:TI:=⟨1,8,.other,[.bF],none⟩
theorem aDc:bf Tryz.prog 33 aqe:=by apply ah<;>first|exact trivial|kernel_rfl
def aqd:TI:=⟨6,96,.struct [(0,3),(1,24),(3,25),(4,3),(5,25)],[.int 0,.int 0,.emp,.emp,.int 0,.emp],some (.prod .int (.prod (.prod .int (.list .elem)) (.prod (.list .u8) (.prod .int (.list .u8)))))⟩
theorem aDb:bf Tryz.prog 34 aqd:=by apply ah<;>first|exact⟨by kernel_rfl,by kernel_rfl,by kernel_rfl⟩|kernel_rfl
def aqc:TI:=⟨6,96,.struct [(0,3),(1,24),(3,25),(4,3),(5,25)],[.int 0,.int 0,.emp,.emp,.int 0,.emp],some (.prod .int (.prod (.prod .int (.list .elem)) (.prod (.list .u8) (.prod .int (.list .u8)))))⟩
theorem aDa:bf Tryz.prog 35 aqc:=by apply ah<;>first|exact⟨by kernel_rfl,by kernel_rfl,by kernel_rfl⟩|kernel_rfl
def aqb:TI:=⟨1,8,.other,[.bF],none⟩
theorem aC9:bf Tryz.prog 37 aqb:=by apply ah<;>first|exact trivial|kernel_rfl
def aqa:TI:=⟨1,8,.other,[.bF],none⟩
theorem aC8:bf Tryz.prog 38 aqa:=by apply ah<;>first|exact trivial|kernel_rfl
def ap9:TI:=⟨1,8,.int .u64,[.u64 0],some .u64⟩
theorem aC7:bf Tryz.prog 39 ap9:=by apply ah<;>first|exact⟨by kernel_rfl,by kernel_rfl,by kernel_rfl⟩|kernel_rfl
def ap8:TI:=⟨4,32,.array 4 39,[.u64 0,.u64 0,.u64 0,.u64 0],some .elem⟩
theorem aC6:bf Tryz.prog 40 ap8:=by apply ah<;>first|exact⟨by kernel_rfl,by kernel_rfl,by kernel_rfl⟩|kernel_rfl
def Rl:TI:=⟨4,32,.array 4 39,[.u64 0,.u64 0,.u64 0,.u64 0],some .elem⟩
theorem aC5:bf Tryz.prog 41 Rl:=by apply ah<;>first|exact⟨by kernel_rfl,by kernel_rfl,by kernel_rfl⟩|kernel_rfl
def ap7:TI:=⟨9,72,.struct [(0,41),(4,41),(8,4)],[.u64 0,.u64 0,.u64 0,.u64 0,.u64 0,.u64 0,.u64 0,.u64 0,.bool false],some (.prod .elem (.prod .elem .bool))⟩
theorem aC4:bf Tryz.prog 42 ap7:=by apply ah<;>first|exact⟨by kernel_rfl,by kernel_rfl,by kernel_rfl⟩|kernel_rfl
def ap6:TI:=⟨9,72,.struct [(0,41),(4,41),(8,4)],[.u64 0,.u64 0,.u64 0,.u64 0,.u64 0,.u64 0,.u64 0,.u64 0,.bool false],some (.prod .elem (.prod .elem .bool))⟩
theorem aC3:bf Tryz.prog 43 ap6:=by apply ah<;>first|exact⟨by kernel_rfl,by kernel_rfl,by kernel_rfl⟩|kernel_rfl
def ap5:TI:=⟨14,112,.struct [(0,3),(1,41),(5,43)],[.int 0,.u64 0,.u64 0,.u64 0,.u64 0,.u64 0,.u64 0,.u64 0,.u64 0,.u64 0,.u64 0,.u64 0,.u64 0,.bool false],some (.prod .int (.prod .elem (.prod .elem (.prod .elem .bool))))⟩
theorem aC2:bf Tryz.prog 44 ap5:=by apply ah<;>first|exact⟨by kernel_rfl,by kernel_rfl,by kernel_rfl⟩|kernel_rfl
def ap4:TI:=⟨14,112,.struct [(0,3),(1,41),(5,43)],[.int 0,.u64 0,.u64 0,.u64 0,.u64 0,.u64 0,.u64 0,.u64 0,.u64 0,.u64 0,.u64 0,.u64 0,.u64 0,.bool false],some (.prod .int (.prod .elem (.prod .elem (.prod .elem .bool))))⟩
theorem aC1:bf Tryz.prog 45 ap4:=by apply ah<;>first|exact⟨by kernel_rfl,by kernel_rfl,by kernel_rfl⟩|kernel_rfl
def ap3:TI:=⟨1,8,.other,[.bF],none⟩
theorem aC0:bf Tryz.prog 46 ap3:=by apply ah<;>first|exact trivial|kernel_rfl
def ap2:TI:=⟨1,16,.iface,[.dq],none⟩
theorem aCZ:bf Tryz.prog 47 ap2:=by apply ah<;>first|exact trivial|kernel_rfl
def ap1:TI:=⟨1,16,.iface,[.dq],none⟩
theorem aCY:bf Tryz.prog 48 ap1:=by apply ah<;>first|exact trivial|kernel_rfl
def ap0:TI:=⟨2,24,.struct [(0,3),(1,48)],[.int 0,.dq],none⟩
theorem aCX:bf Tryz.prog 49 ap0:=by apply ah<;>first|exact trivial|kernel_rfl
def apZ:TI:=⟨2,24,.struct [(0,3),(1,48)],[.int 0,.dq],none⟩
theorem aCW:bf Tryz.prog 50 apZ:=by apply ah<;>first|exact trivial|kernel_rfl
def apY:TI:=⟨3,48,.struct [(0,50),(2,25)],[.int 0,.dq,.emp],none⟩
theorem aCV:bf Tryz.prog 51 apY:=by apply ah<;>first|exact trivial|kernel_rfl
def apX:TI:=⟨3,48,.struct [(0,50),(2,25)],[.int 0,.dq,.emp],none⟩
theorem aCU:bf Tryz.prog 52 apX:=by apply ah<;>first|exact trivial|kernel_rfl
def apW:TI:=⟨1,8,.other,[.bF],none⟩
theorem aCT:bf Tryz.prog 53 apW:=by apply ah<;>first|exact trivial|kernel_rfl
def apV:TI:=⟨1,8,.other,[.bF],none⟩
theorem aCS:bf Tryz.prog 55 apV:=by apply ah<;>first|exact trivial|kernel_rfl
def apU:TI:=⟨1,8,.other,[.bF],none⟩
theorem aCR:bf Tryz.prog 57 apU:=by apply ah<;>first|exact trivial|kernel_rfl
def apT:TI:=⟨1,8,.other,[.bF],none⟩
theorem aCQ:bf Tryz.prog 59 apT:=by apply ah<;>first|exact trivial|kernel_rfl
def apS:TI:=⟨1,8,.other,[.bF],none⟩
theorem aCP:bf Tryz.prog 61 apS:=by apply ah<;>first|exact trivial|kernel_rfl
def apR:TI:=⟨1,8,.other,[.bF],none⟩
theorem aCO:bf Tryz.prog 62 apR:=by apply ah<;>first|exact trivial|kernel_rfl
def apQ:TI:=⟨1,8,.other,[.bF],none⟩
theorem aCN:bf Tryz.prog 63 apQ:=by apply ah<;>first|exact trivial|kernel_rfl
def apP:TI:=⟨1,8,.other,[.bF],none⟩
theorem aCM:bf Tryz.prog 64 apP:=by apply ah<;>first|exact trivial|kernel_rfl
def apO:TI:=⟨1,8,.other,[.bF],none⟩
theorem aCL:bf Tryz.prog 65 apO:=by apply ah<;>first|exact trivial|kernel_rfl
def apN:TI:=⟨1,8,.other,[.bF],none⟩
theorem aCK:bf Tryz.prog 66 apN:=by apply ah<;>first|exact trivial|kernel_rfl
def apM:TI:=⟨1,24,.slice 43,[.emp],some (.list (.prod .elem (.prod .elem .bool)))⟩
theorem aCJ:bf Tryz.prog 67 apM:=by apply ah<;>first|exact⟨by kernel_rfl,by kernel_rfl,by kernel_rfl⟩|kernel_rfl
def apL:TI:=⟨21,184,.struct [(0,3),(1,3),(2,67),(3,43),(12,43)],[.int 0,.int 0,.emp,.u64 0,.u64 0,.u64 0,.u64 0,.u64 0,.u64 0,.u64 0,.u64 0,.bool false,.u64 0,.u64 0,.u64 0,.u64 0,.u64 0,.u64 0,.u64 0,.u64 0,.bool false],some (.prod .int (.prod .int (.prod (.list (.prod .elem (.prod .elem .bool))) (.prod (.prod .elem (.prod .elem .bool)) (.prod .elem (.prod .elem .bool))))))⟩
theorem aCI:bf Tryz.prog 68 apL:=by apply ah<;>first|exact⟨by kernel_rfl,by kernel_rfl,by kernel_rfl⟩|kernel_rfl
def apK:TI:=⟨21,184,.struct [(0,3),(1,3),(2,67),(3,43),(12,43)],[.int 0,.int 0,.emp,.u64 0,.u64 0,.u64 0,.u64 0,.u64 0,.u64 0,.u64 0,.u64 0,.bool false,.u64 0,.u64 0,.u64 0,.u64 0,.u64 0,.u64 0,.u64 0,.u64 0,.bool false],some (.prod .int (.prod .int (.prod (.list (.prod .elem (.prod .elem .bool))) (.prod (.prod .elem (.prod .elem .bool)) (.prod .elem (.prod .elem .bool))))))⟩
theorem aCH:bf Tryz.prog 69 apK:=by apply ah<;>first|exact⟨by kernel_rfl,by kernel_rfl,by kernel_rfl⟩|kernel_rfl
def apJ:TI:=⟨1,8,.other,[.bF],none⟩
theorem aCG:bf Tryz.prog 71 apJ:=by apply ah<;>first|exact trivial|kernel_rfl
def apI:TI:=⟨1,8,.other,[.bF],none⟩
theorem aCF:bf Tryz.prog 72 apI:=by apply ah<;>first|exact trivial|kernel_rfl
def apH:TI:=⟨1,8,.other,[.bF],none⟩
theorem aCE:bf Tryz.prog 73 apH:=by apply ah<;>first|exact trivial|kernel_rfl
def apG:TI:=⟨1,8,.other,[.bF],none⟩
theorem aCD:bf Tryz.prog 74 apG:=by apply ah<;>first|exact trivial|kernel_rfl
def apF:TI:=⟨1,8,.other,[.bF],none⟩
theorem aCC:bf Tryz.prog 75 apF:=by apply ah<;>first|exact trivial|kernel_rfl
def apE:TI:=⟨1,8,.other,[.bF],none⟩
theorem aCB:bf Tryz.prog 76 apE:=by apply ah<;>first|exact trivial|kernel_rfl
def apD:TI:=⟨1,8,.other,[.bF],none⟩
theorem aCA:bf Tryz.prog 77 apD:=by apply ah<;>first|exact trivial|kernel_rfl
def apC:TI:=⟨1,8,.other,[.bF],none⟩
theorem aCz:bf Tryz.prog 78 apC:=by apply ah<;>first|exact trivial|kernel_rfl
def apB:TI:=⟨1,8,.other,[.bF],none⟩
theorem aCy:bf Tryz.prog 79 apB:=by apply ah<;>first|exact trivial|kernel_rfl
def apA:TI:=⟨1,8,.other,[.bF],none⟩
theorem aCx:bf Tryz.prog 80 apA:=by apply ah<;>first|exact trivial|kernel_rfl
def apz:TI:=⟨1,8,.other,[.bF],none⟩
theorem aCw:bf Tryz.prog 81 apz:=by apply ah<;>first|exact trivial|kernel_rfl
def apy:TI:=⟨1,8,.other,[.bF],none⟩
theorem aCv:bf Tryz.prog 82 apy:=by apply ah<;>first|exact trivial|kernel_rfl
def apx:TI:=⟨1,8,.other,[.bF],none⟩
theorem aCu:bf Tryz.prog 83 apx:=by apply ah<;>first|exact trivial|kernel_rfl
def apw:TI:=⟨1,8,.other,[.bF],none⟩
theorem aCt:bf Tryz.prog 84 apw:=by apply ah<;>first|exact trivial|kernel_rfl
def apv:TI:=⟨1,8,.other,[.bF],none⟩
theorem aCs:bf Tryz.prog 85 apv:=by apply ah<;>first|exact trivial|kernel_rfl
def apu:TI:=⟨1,8,.int .u64,[.u64 0],some .u64⟩
theorem aCr:bf Tryz.prog 86 apu:=by apply ah<;>first|exact⟨by kernel_rfl,by kernel_rfl,by kernel_rfl⟩|kernel_rfl
def apt:TI:=⟨1,8,.ptr [("Bytes",50),("Scalar",49),("sigil/tape.say",88)],[.oD],none⟩
theorem aCq:bf Tryz.prog 87 apt:=by apply ah<;>first|exact trivial|kernel_rfl
def aps:TI:=⟨1,8,.other,[.bF],none⟩
theorem aCp:bf Tryz.prog 89 aps:=by apply ah<;>first|exact trivial|kernel_rfl
def apr:TI:=⟨3,48,.struct [(0,50),(2,25)],[.int 0,.dq,.emp],none⟩
theorem aCo:bf Tryz.prog 90 apr:=by apply ah<;>first|exact trivial|kernel_rfl
def apq:TI:=⟨3,48,.struct [(0,50),(2,25)],[.int 0,.dq,.emp],none⟩
theorem aCn:bf Tryz.prog 91 apq:=by apply ah<;>first|exact trivial|kernel_rfl
def app:TI:=⟨1,8,.other,[.bF],none⟩
theorem aCm:bf Tryz.prog 92 app:=by apply ah<;>first|exact trivial|kernel_rfl
def apo:TI:=⟨1,8,.other,[.bF],none⟩
theorem aCl:bf Tryz.prog 94 apo:=by apply ah<;>first|exact trivial|kernel_rfl
def apn:TI:=⟨1,8,.ptr [("Challenge",24),("Curve",26),("Hear",17)],[.oD],none⟩
theorem aCk:bf Tryz.prog 95 apn:=by apply ah<;>first|exact trivial|kernel_rfl
def apm:TI:=⟨1,8,.other,[.bF],none⟩
theorem aCj:bf Tryz.prog 96 apm:=by apply ah<;>first|exact trivial|kernel_rfl
def apl:TI:=⟨1,8,.other,[.bF],none⟩
theorem aCi:bf Tryz.prog 97 apl:=by apply ah<;>first|exact trivial|kernel_rfl
def apk:TI:=⟨1,8,.other,[.bF],none⟩
theorem aCh:bf Tryz.prog 98 apk:=by apply ah<;>first|exact trivial|kernel_rfl
def apj:TI:=⟨1,8,.other,[.bF],none⟩
theorem aCg:bf Tryz.prog 99 apj:=by apply ah<;>first|exact trivial|kernel_rfl
def ahM:TI:=⟨1,8,.other,[.bF],none⟩
theorem axT:bf Tryz.prog 100 ahM:=by apply ah<;>first|exact trivial|kernel_rfl
def ahL:TI:=⟨1,8,.other,[.bF],none⟩
theorem axS:bf Tryz.prog 101 ahL:=by apply ah<;>first|exact trivial|kernel_rfl
def ahK:TI:=⟨1,8,.other,[.bF],none⟩
theorem axR:bf Tryz.prog 102 ahK:=by apply ah<;>first|exact trivial|kernel_rfl
def ahJ:TI:=⟨1,8,.other,[.bF],none⟩
theorem axQ:bf Tryz.prog 103 ahJ:=by apply ah<;>first|exact trivial|kernel_rfl
def ahI:TI:=⟨1,8,.other,[.bF],none⟩
theorem axP:bf Tryz.prog 105 ahI:=by apply ah<;>first|exact trivial|kernel_rfl
def ahH:TI:=⟨1,8,.other,[.bF],none⟩
theorem axO:bf Tryz.prog 106 ahH:=by apply ah<;>first|exact trivial|kernel_rfl
def ahG:TI:=⟨1,8,.other,[.bF],none⟩
theorem axN:bf Tryz.prog 107 ahG:=by apply ah<;>first|exact trivial|kernel_rfl
def ahF:TI:=⟨1,8,.other,[.bF],none⟩
theorem axM:bf Tryz.prog 108 ahF:=by apply ah<;>first|exact trivial|kernel_rfl
def ahE:TI:=⟨1,8,.other,[.bF],none⟩
theorem axL:bf Tryz.prog 109 ahE:=by apply ah<;>first|exact trivial|kernel_rfl
def ahD:TI:=⟨1,8,.other,[.bF],none⟩
theorem axK:bf Tryz.prog 110 ahD:=by apply ah<;>first|exact trivial|kernel_rfl
def ahC:TI:=⟨13,104,.struct [(0,41),(4,43)],[.u64 0,.u64 0,.u64 0,.u64 0,.u64 0,.u64 0,.u64 0,.u64 0,.u64 0,.u64 0,.u64 0,.u64 0,.bool false],some (.prod .elem (.prod .elem (.prod .elem .bool)))⟩
theorem axJ:bf Tryz.prog 111 ahC:=by apply ah<;>first|exact⟨by kernel_rfl,by kernel_rfl,by kernel_rfl⟩|kernel_rfl
def ahB:TI:=⟨13,104,.struct [(0,41),(4,43)],[.u64 0,.u64 0,.u64 0,.u64 0,.u64 0,.u64 0,.u64 0,.u64 0,.u64 0,.u64 0,.u64 0,.u64 0,.bool false],some (.prod .elem (.prod .elem (.prod .elem .bool)))⟩
theorem axI:bf Tryz.prog 112 ahB:=by apply ah<;>first|exact⟨by kernel_rfl,by kernel_rfl,by kernel_rfl⟩|kernel_rfl
def ahA:TI:=⟨1,24,.slice 112,[.emp],some (.list (.prod .elem (.prod .elem (.prod .elem .bool))))⟩
theorem axH:bf Tryz.prog 113 ahA:=by apply ah<;>first|exact⟨by kernel_rfl,by kernel_rfl,by kernel_rfl⟩|kernel_rfl
def ahz:TI:=⟨1,8,.other,[.bF],none⟩
theorem axG:bf Tryz.prog 114 ahz:=by apply ah<;>first|exact trivial|kernel_rfl
def ahy:TI:=⟨1,8,.other,[.bF],none⟩
theorem axF:bf Tryz.prog 115 ahy:=by apply ah<;>first|exact trivial|kernel_rfl
def ahx:TI:=⟨11,88,.struct [(0,41),(4,3),(5,39),(6,39),(7,41)],[.u64 0,.u64 0,.u64 0,.u64 0,.int 0,.u64 0,.u64 0,.u64 0,.u64 0,.u64 0,.u64 0],some (.prod .elem (.prod .int (.prod .u64 (.prod .u64 .elem))))⟩
theorem axE:bf Tryz.prog 116 ahx:=by apply ah<;>first|exact⟨by kernel_rfl,by kernel_rfl,by kernel_rfl⟩|kernel_rfl
def ahw:TI:=⟨11,88,.struct [(0,41),(4,3),(5,39),(6,39),(7,41)],[.u64 0,.u64 0,.u64 0,.u64 0,.int 0,.u64 0,.u64 0,.u64 0,.u64 0,.u64 0,.u64 0],some (.prod .elem (.prod .int (.prod .u64 (.prod .u64 .elem))))⟩
theorem axD:bf Tryz.prog 117 ahw:=by apply ah<;>first|exact⟨by kernel_rfl,by kernel_rfl,by kernel_rfl⟩|kernel_rfl
def ahv:TI:=⟨1,8,.other,[.bF],none⟩
theorem axC:bf Tryz.prog 119 ahv:=by apply ah<;>first|exact trivial|kernel_rfl
def ahu:TI:=⟨1,8,.other,[.bF],none⟩
theorem axB:bf Tryz.prog 120 ahu:=by apply ah<;>first|exact trivial|kernel_rfl
def aht:TI:=⟨1,8,.other,[.bF],none⟩
theorem axA:bf Tryz.prog 121 aht:=by apply ah<;>first|exact trivial|kernel_rfl
def ahs:TI:=⟨1,8,.int .i64,[.int 0],some .int⟩
theorem axz:bf Tryz.prog 122 ahs:=by apply ah<;>first|exact⟨by kernel_rfl,by kernel_rfl,by kernel_rfl⟩|kernel_rfl
def ahr:TI:=⟨1,8,.other,[.bF],none⟩
theorem axy:bf Tryz.prog 123 ahr:=by apply ah<;>first|exact trivial|kernel_rfl
def ahq:TI:=⟨12,96,.struct [(0,41),(4,41),(8,41)],List.replicate 12 (.u64 0),some (.prod .elem (.prod .elem .elem))⟩
theorem axx:bf Tryz.prog 124 ahq:=by apply ah<;>first|exact⟨by kernel_rfl,by kernel_rfl,by kernel_rfl⟩|kernel_rfl
def ahp:TI:=⟨12,96,.struct [(0,41),(4,41),(8,41)],List.replicate 12 (.u64 0),some (.prod .elem (.prod .elem .elem))⟩
theorem axw:bf Tryz.prog 125 ahp:=by apply ah<;>first|exact⟨by kernel_rfl,by kernel_rfl,by kernel_rfl⟩|kernel_rfl
def aho:TI:=⟨1,8,.other,[.bF],none⟩
theorem axv:bf Tryz.prog 126 aho:=by apply ah<;>first|exact trivial|kernel_rfl
def ahn:TI:=⟨1,8,.other,[.bF],none⟩
theorem axu:bf Tryz.prog 127 ahn:=by apply ah<;>first|exact trivial|kernel_rfl
def ahm:TI:=⟨1,8,.other,[.bF],none⟩
theorem axt:bf Tryz.prog 128 ahm:=by apply ah<;>first|exact trivial|kernel_rfl
def ahl:TI:=⟨1,8,.other,[.bF],none⟩
theorem axs:bf Tryz.prog 129 ahl:=by apply ah<;>first|exact trivial|kernel_rfl
def ahk:TI:=⟨1,8,.other,[.bF],none⟩
theorem axr:bf Tryz.prog 131 ahk:=by apply ah<;>first|exact trivial|kernel_rfl
def ahj:TI:=⟨1,8,.other,[.bF],none⟩
theorem axq:bf Tryz.prog 132 ahj:=by apply ah<;>first|exact trivial|kernel_rfl
def ahi:TI:=⟨1,8,.ptr [("sigil/tape.next",191),("sigil/tape.take",192)],[.oD],none⟩
theorem axp:bf Tryz.prog 133 ahi:=by apply ah<;>first|exact trivial|kernel_rfl
def ahh:TI:=⟨1,24,.struct [(0,22)],[.emp],some (.list .elem)⟩
theorem axo:bf Tryz.prog 134 ahh:=by apply ah<;>first|exact⟨by kernel_rfl,by kernel_rfl,by kernel_rfl⟩|kernel_rfl
def ahg:TI:=⟨1,24,.struct [(0,22)],[.emp],some (.list .elem)⟩
theorem axn:bf Tryz.prog 135 ahg:=by apply ah<;>first|exact⟨by kernel_rfl,by kernel_rfl,by kernel_rfl⟩|kernel_rfl
def ahf:TI:=⟨2,32,.struct [(0,3),(1,135)],[.int 0,.emp],some (.prod .int (.list .elem))⟩
theorem axm:bf Tryz.prog 136 ahf:=by apply ah<;>first|exact⟨by kernel_rfl,by kernel_rfl,by kernel_rfl⟩|kernel_rfl
def ahe:TI:=⟨2,32,.struct [(0,3),(1,135)],[.int 0,.emp],some (.prod .int (.list .elem))⟩
theorem axl:bf Tryz.prog 137 ahe:=by apply ah<;>first|exact⟨by kernel_rfl,by kernel_rfl,by kernel_rfl⟩|kernel_rfl
def ahd:TI:=⟨1,8,.ptr [("Sum",110),("Write",109)],[.oD],none⟩
theorem axk:bf Tryz.prog 138 ahd:=by apply ah<;>first|exact trivial|kernel_rfl
def ahc:TI:=⟨1,8,.other,[.bF],none⟩
theorem axj:bf Tryz.prog 140 ahc:=by apply ah<;>first|exact trivial|kernel_rfl
def ahb:TI:=⟨1,8,.ptr [("sigil/tape.next",194),("sigil/tape.take",195)],[.oD],none⟩
theorem axi:bf Tryz.prog 141 ahb:=by apply ah<;>first|exact trivial|kernel_rfl
def aha:TI:=⟨2,16,.struct [(0,3),(1,138)],[.int 0,.oD],none⟩
theorem axh:bf Tryz.prog 142 aha:=by apply ah<;>first|exact trivial|kernel_rfl
def ag9:TI:=⟨2,16,.struct [(0,3),(1,138)],[.int 0,.oD],none⟩
theorem axg:bf Tryz.prog 143 ag9:=by apply ah<;>first|exact trivial|kernel_rfl
def ag8:TI:=⟨1,8,.other,[.bF],none⟩
theorem axf:bf Tryz.prog 144 ag8:=by apply ah<;>first|exact trivial|kernel_rfl
def ag7:TI:=⟨1,8,.other,[.bF],none⟩
theorem axe:bf Tryz.prog 145 ag7:=by apply ah<;>first|exact trivial|kernel_rfl
def ag6:TI:=⟨1,8,.other,[.bF],none⟩
theorem axd:bf Tryz.prog 146 ag6:=by apply ah<;>first|exact trivial|kernel_rfl
def ag5:TI:=⟨1,8,.other,[.bF],none⟩
theorem axc:bf Tryz.prog 147 ag5:=by apply ah<;>first|exact trivial|kernel_rfl
def ag4:TI:=⟨8,64,.array 8 39,[.u64 0,.u64 0,.u64 0,.u64 0,.u64 0,.u64 0,.u64 0,.u64 0],some (.arr 8 .u64)⟩
theorem axb:bf Tryz.prog 148 ag4:=by apply ah<;>first|exact⟨by kernel_rfl,by kernel_rfl,by kernel_rfl⟩|kernel_rfl
def ag3:TI:=⟨1,8,.other,[.bF],none⟩
theorem axa:bf Tryz.prog 149 ag3:=by apply ah<;>first|exact trivial|kernel_rfl
def ag2:TI:=⟨1,8,.other,[.bF],none⟩
theorem aw9:bf Tryz.prog 150 ag2:=by apply ah<;>first|exact trivial|kernel_rfl
def ag1:TI:=⟨1,8,.other,[.bF],none⟩
theorem aw8:bf Tryz.prog 151 ag1:=by apply ah<;>first|exact trivial|kernel_rfl
def ag0:TI:=⟨1,8,.other,[.bF],none⟩
theorem aw7:bf Tryz.prog 152 ag0:=by apply ah<;>first|exact trivial|kernel_rfl
def agZ:TI:=⟨1,8,.other,[.bF],none⟩
theorem aw6:bf Tryz.prog 153 agZ:=by apply ah<;>first|exact trivial|kernel_rfl
def agY:TI:=⟨1,8,.other,[.bF],none⟩
theorem aw5:bf Tryz.prog 154 agY:=by apply ah<;>first|exact trivial|kernel_rfl
def agX:TI:=⟨1,8,.other,[.bF],none⟩
theorem aw4:bf Tryz.prog 155 agX:=by apply ah<;>first|exact trivial|kernel_rfl
def agW:TI:=⟨1,8,.ptr [("Add",115),("Scale",196),("Value",116)],[.oD],none⟩
theorem aw3:bf Tryz.prog 156 agW:=by apply ah<;>first|exact trivial|kernel_rfl
def agV:TI:=⟨1,8,.other,[.bF],none⟩
theorem aw2:bf Tryz.prog 158 agV:=by apply ah<;>first|exact trivial|kernel_rfl
def agU:TI:=⟨1,8,.other,[.bF],none⟩
theorem aw1:bf Tryz.prog 159 agU:=by apply ah<;>first|exact trivial|kernel_rfl
def agT:TI:=⟨1,8,.other,[.bF],none⟩
theorem aw0:bf Tryz.prog 160 agT:=by apply ah<;>first|exact trivial|kernel_rfl
def agS:TI:=⟨1,8,.other,[.bF],none⟩
theorem awZ:bf Tryz.prog 161 agS:=by apply ah<;>first|exact trivial|kernel_rfl
def agR:TI:=⟨1,8,.other,[.bF],none⟩
theorem awY:bf Tryz.prog 162 agR:=by apply ah<;>first|exact trivial|kernel_rfl
def agQ:TI:=⟨11,104,.struct [(0,3),(1,148),(9,25),(10,39)],[.int 0,.u64 0,.u64 0,.u64 0,.u64 0,.u64 0,.u64 0,.u64 0,.u64 0,.emp,.u64 0],some (.prod .int (.prod (.arr 8 .u64) (.prod (.list .u8) .u64)))⟩
theorem awX:bf Tryz.prog 163 agQ:=by apply ah<;>first|exact⟨by kernel_rfl,by kernel_rfl,by kernel_rfl⟩|kernel_rfl
def agP:TI:=⟨11,104,.struct [(0,3),(1,148),(9,25),(10,39)],[.int 0,.u64 0,.u64 0,.u64 0,.u64 0,.u64 0,.u64 0,.u64 0,.u64 0,.emp,.u64 0],some (.prod .int (.prod (.arr 8 .u64) (.prod (.list .u8) .u64)))⟩
theorem awW:bf Tryz.prog 164 agP:=by apply ah<;>first|exact⟨by kernel_rfl,by kernel_rfl,by kernel_rfl⟩|kernel_rfl
def agO:TI:=⟨16,16,.array 16 5,List.replicate 16 (.u8 0),some (.arr 16 .u8)⟩
theorem awV:bf Tryz.prog 165 agO:=by apply ah<;>first|exact⟨by kernel_rfl,by kernel_rfl,by kernel_rfl⟩|kernel_rfl
def agN:TI:=⟨1,8,.other,[.bF],none⟩
theorem awU:bf Tryz.prog 166 agN:=by apply ah<;>first|exact trivial|kernel_rfl
def agM:TI:=⟨1,8,.other,[.bF],none⟩
theorem awT:bf Tryz.prog 168 agM:=by apply ah<;>first|exact trivial|kernel_rfl
def agL:TI:=⟨1,8,.other,[.bF],none⟩
theorem awS:bf Tryz.prog 170 agL:=by apply ah<;>first|exact trivial|kernel_rfl
def agK:TI:=⟨1,8,.other,[.bF],none⟩
theorem awR:bf Tryz.prog 171 agK:=by apply ah<;>first|exact trivial|kernel_rfl
def agJ:TI:=⟨1,8,.other,[.bF],none⟩
theorem awQ:bf Tryz.prog 172 agJ:=by apply ah<;>first|exact trivial|kernel_rfl
def agI:TI:=⟨16,128,.array 16 39,List.replicate 16 (.u64 0),some (.arr 16 .u64)⟩
theorem awP:bf Tryz.prog 173 agI:=by apply ah<;>first|exact⟨by kernel_rfl,by kernel_rfl,by kernel_rfl⟩|kernel_rfl
def agH:TI:=⟨16,128,.array 16 3,List.replicate 16 (.int 0),some (.arr 16 .int)⟩
theorem awO:bf Tryz.prog 174 agH:=by apply ah<;>first|exact⟨by kernel_rfl,by kernel_rfl,by kernel_rfl⟩|kernel_rfl
def agG:TI:=⟨160,1280,.array 10 174,List.replicate 160 (.int 0),some (.arr 10 (.arr 16 .int))⟩
theorem awN:bf Tryz.prog 175 agG:=by apply ah<;>first|exact⟨by kernel_rfl,by kernel_rfl,by kernel_rfl⟩|kernel_rfl
def agF:TI:=⟨1,8,.other,[.bF],none⟩
theorem awM:bf Tryz.prog 176 agF:=by apply ah<;>first|exact trivial|kernel_rfl
def agE:TI:=⟨1,8,.other,[.bF],none⟩
theorem awL:bf Tryz.prog 177 agE:=by apply ah<;>first|exact trivial|kernel_rfl
def agD:TI:=⟨1,24,.slice 3,[.emp],some (.list .int)⟩
theorem awK:bf Tryz.prog 178 agD:=by apply ah<;>first|exact⟨by kernel_rfl,by kernel_rfl,by kernel_rfl⟩|kernel_rfl
def agC:TI:=⟨1,8,.other,[.bF],none⟩
theorem awJ:bf Tryz.prog 179 agC:=by apply ah<;>first|exact trivial|kernel_rfl
def agB:TI:=⟨1,8,.other,[.bF],none⟩
theorem awI:bf Tryz.prog 180 agB:=by apply ah<;>first|exact trivial|kernel_rfl
def agA:TI:=⟨1,8,.other,[.bF],none⟩
theorem awH:bf Tryz.prog 181 agA:=by apply ah<;>first|exact trivial|kernel_rfl
def agz:TI:=⟨128,128,.array 128 5,List.replicate 128 (.u8 0),some (.arr 128 .u8)⟩
theorem awG:bf Tryz.prog 182 agz:=by apply ah<;>first|exact⟨by kernel_rfl,by kernel_rfl,by kernel_rfl⟩|kernel_rfl
def agy:TI:=⟨8,64,.array 2 41,[.u64 0,.u64 0,.u64 0,.u64 0,.u64 0,.u64 0,.u64 0,.u64 0],some (.arr 2 .elem)⟩
theorem awF:bf Tryz.prog 183 agy:=by apply ah<;>first|exact⟨by kernel_rfl,by kernel_rfl,by kernel_rfl⟩|kernel_rfl
def agx:TI:=⟨1,8,.other,[.bF],none⟩
theorem awE:bf Tryz.prog 185 agx:=by apply ah<;>first|exact trivial|kernel_rfl
def agw:TI:=⟨2,32,.struct [(0,3),(1,113)],[.int 0,.emp],some (.prod .int (.list (.prod .elem (.prod .elem (.prod .elem .bool)))))⟩
theorem awD:bf Tryz.prog 186 agw:=by apply ah<;>first|exact⟨by kernel_rfl,by kernel_rfl,by kernel_rfl⟩|kernel_rfl
def agv:TI:=⟨2,32,.struct [(0,3),(1,113)],[.int 0,.emp],some (.prod .int (.list (.prod .elem (.prod .elem (.prod .elem .bool)))))⟩
theorem awC:bf Tryz.prog 187 agv:=by apply ah<;>first|exact⟨by kernel_rfl,by kernel_rfl,by kernel_rfl⟩|kernel_rfl
def agu:TI:=⟨6,48,.array 6 39,[.u64 0,.u64 0,.u64 0,.u64 0,.u64 0,.u64 0],some (.arr 6 .u64)⟩
theorem awB:bf Tryz.prog 188 agu:=by apply ah<;>first|exact⟨by kernel_rfl,by kernel_rfl,by kernel_rfl⟩|kernel_rfl
def agt:TI:=⟨1,8,.other,[.bF],none⟩
theorem awA:bf Tryz.prog 189 agt:=by apply ah<;>first|exact trivial|kernel_rfl
def ags:TI:=⟨1,24,.slice 39,[.emp],some (.list .u64)⟩
theorem awz:bf Tryz.prog 190 ags:=by apply ah<;>first|exact⟨by kernel_rfl,by kernel_rfl,by kernel_rfl⟩|kernel_rfl
def agr:TI:=⟨1,16,.iface,[.dq],none⟩
theorem awy:bf Tryz.prog 191 agr:=by apply ah<;>first|exact trivial|kernel_rfl
def agq:TI:=⟨1,16,.iface,[.dq],none⟩
theorem awx:bf Tryz.prog 192 agq:=by apply ah<;>first|exact trivial|kernel_rfl
def agp:TI:=⟨1,8,.other,[.bF],none⟩
theorem aww:bf Tryz.prog 193 agp:=by apply ah<;>first|exact trivial|kernel_rfl
def ago:TI:=⟨4,32,.array 4 3,[.int 0,.int 0,.int 0,.int 0],some (.arr 4 .int)⟩
theorem awv:bf Tryz.prog 194 ago:=by apply ah<;>first|exact⟨by kernel_rfl,by kernel_rfl,by kernel_rfl⟩|kernel_rfl
def agn:TI:=⟨1,8,.other,[.bF],none⟩
theorem awu:bf Tryz.prog 195 agn:=by apply ah<;>first|exact trivial|kernel_rfl
def agm:TI:=⟨16,128,.array 16 39,List.replicate 16 (.u64 0),some (.arr 16 .u64)⟩
theorem awt:bf Tryz.prog 196 agm:=by apply ah<;>first|exact⟨by kernel_rfl,by kernel_rfl,by kernel_rfl⟩|kernel_rfl
def agl:TI:=⟨10,160,.array 10 9,List.replicate 10 (.str []),some (.arr 10 .str)⟩
theorem aws:bf Tryz.prog 197 agl:=by apply ah<;>first|exact⟨by kernel_rfl,by kernel_rfl,by kernel_rfl⟩|kernel_rfl
def agk:TI:=⟨1,8,.other,[.bF],none⟩
theorem awr:bf Tryz.prog 198 agk:=by apply ah<;>first|exact trivial|kernel_rfl
def agj:TI:=⟨1,8,.other,[.bF],none⟩
theorem awq:bf Tryz.prog 199 agj:=by apply ah<;>first|exact trivial|kernel_rfl
def agi:TI:=⟨1,8,.other,[.bF],none⟩
theorem awp:bf Tryz.prog 200 agi:=by apply ah<;>first|exact trivial|kernel_rfl
def agh:TI:=⟨1,8,.other,[.bF],none⟩
theorem awo:bf Tryz.prog 201 agh:=by apply ah<;>first|exact trivial|kernel_rfl
def agf:TI:=⟨1,8,.other,[.bF],none⟩
theorem awn:bf Tryz.prog 202 agf:=by apply ah<;>first|exact trivial|kernel_rfl
def age:TI:=⟨1,8,.other,[.bF],none⟩
theorem awm:bf Tryz.prog 203 age:=by apply ah<;>first|exact trivial|kernel_rfl
def agd:TI:=⟨1,8,.ptr [("sigil/blake.mix",159)],[.oD],none⟩
theorem awl:bf Tryz.prog 204 agd:=by apply ah<;>first|exact trivial|kernel_rfl
def agc:TI:=⟨1,8,.other,[.bF],none⟩
theorem awk:bf Tryz.prog 205 agc:=by apply ah<;>first|exact trivial|kernel_rfl
def agb:TI:=⟨1,8,.other,[.bF],none⟩
theorem awj:bf Tryz.prog 206 agb:=by apply ah<;>first|exact trivial|kernel_rfl
def aga:TI:=⟨1,8,.other,[.bF],none⟩
theorem awi:bf Tryz.prog 207 aga:=by apply ah<;>first|exact trivial|kernel_rfl
def af9:TI:=⟨135,1080,.array 15 43,(([.u64 0,.u64 0,.u64 0,.u64 0,.u64 0,.u64 0,.u64 0,.u64 0,.bool false,.u64 0,.u64 0,.u64 0,.u64 0,.u64 0,.u64 0,.u64 0,.u64 0,.bool false,.u64 0,.u64 0,.u64 0,.u64 0,.u64 0,.u64 0,.u64 0,.u64 0,.bool false,.u64 0,.u64 0,.u64 0,.u64 0,.u64 0,.u64 0,.u64 0,.u64 0,.bool false,.u64 0,.u64 0,.u64 0,.u64 0,.u64 0,.u64 0,.u64 0,.u64 0,.bool false,.u64 0,.u64 0,.u64 0,.u64 0,.u64 0]:List SV)++([.u64 0,.u64 0,.u64 0,.bool false,.u64 0,.u64 0,.u64 0,.u64 0,.u64 0,.u64 0,.u64 0,.u64 0,.bool false,.u64 0,.u64 0,.u64 0,.u64 0,.u64 0,.u64 0,.u64 0,.u64 0,.bool false,.u64 0,.u64 0,.u64 0,.u64 0,.u64 0,.u64 0,.u64 0,.u64 0,.bool false,.u64 0,.u64 0,.u64 0,.u64 0,.u64 0,.u64 0,.u64 0,.u64 0,.bool false,.u64 0,.u64 0,.u64 0,.u64 0,.u64 0,.u64 0,.u64 0,.u64 0,.bool false,.u64 0]:List SV)++([.u64 0,.u64 0,.u64 0,.u64 0,.u64 0,.u64 0,.u64 0,.bool false,.u64 0,.u64 0,.u64 0,.u64 0,.u64 0,.u64 0,.u64 0,.u64 0,.bool false,.u64 0,.u64 0,.u64 0,.u64 0,.u64 0,.u64 0,.u64 0,.u64 0,.bool false,.u64 0,.u64 0,.u64 0,.u64 0,.u64 0,.u64 0,.u64 0,.u64 0,.bool false]:List SV)),some (.arr 15 (.prod .elem (.prod .elem .bool)))⟩
theorem awh:bf Tryz.prog 208 af9:=by apply ah<;>first|exact⟨by kernel_rfl,by kernel_rfl,by kernel_rfl⟩|kernel_rfl
def af8:TI:=⟨1,8,.other,[.bF],none⟩
theorem awg:bf Tryz.prog 209 af8:=by apply ah<;>first|exact trivial|kernel_rfl
def af7:TI:=⟨1,8,.ptr [("Error",197)],[.oD],none⟩
theorem awf:bf Tryz.prog 210 af7:=by apply ah<;>first|exact trivial|kernel_rfl
def af6:TI:=⟨1,8,.other,[.bF],none⟩
theorem awe:bf Tryz.prog 211 af6:=by apply ah<;>first|exact trivial|kernel_rfl
def af5:TI:=⟨0,0,.array 0 16,[],none⟩
theorem awd:bf Tryz.prog 214 af5:=by apply ah<;>first|exact trivial|kernel_rfl
def af4:TI:=⟨1,4,.int .u32,[.bF],none⟩
theorem awc:bf Tryz.prog 217 af4:=by apply ah<;>first|exact trivial|kernel_rfl
def af3:TI:=⟨1,1,.int .u8,[.u8 0],some .u8⟩
theorem awb:bf Tryz.prog 218 af3:=by apply ah<;>first|exact⟨by kernel_rfl,by kernel_rfl,by kernel_rfl⟩|kernel_rfl
def af2:TI:=⟨1,1,.int .u8,[.u8 0],some .u8⟩
theorem awa:bf Tryz.prog 219 af2:=by apply ah<;>first|exact⟨by kernel_rfl,by kernel_rfl,by kernel_rfl⟩|kernel_rfl
def af1:TI:=⟨1,8,.other,[.bF],none⟩
theorem av9:bf Tryz.prog 220 af1:=by apply ah<;>first|exact trivial|kernel_rfl
def af0:TI:=⟨1,8,.ptr [],[.oD],none⟩
theorem av8:bf Tryz.prog 221 af0:=by apply ah<;>first|exact trivial|kernel_rfl
def afZ:TI:=⟨1,4,.int .i32,[.bF],none⟩
theorem av7:bf Tryz.prog 222 afZ:=by apply ah<;>first|exact trivial|kernel_rfl
def afY:TI:=⟨1,4,.int .i32,[.bF],none⟩
theorem av6:bf Tryz.prog 223 afY:=by apply ah<;>first|exact trivial|kernel_rfl
def afX:TI:=⟨1,8,.ptr [("Next",193)],[.oD],none⟩
theorem av5:bf Tryz.prog 226 afX:=by apply ah<;>first|exact trivial|kernel_rfl
def afW:TI:=⟨1,16,.struct [(0,9)],[.str []],some .str⟩
theorem av4:bf Tryz.prog 227 afW:=by apply ah<;>first|exact⟨by kernel_rfl,by kernel_rfl,by kernel_rfl⟩|kernel_rfl
def afV:TI:=⟨1,16,.struct [(0,9)],[.str []],some .str⟩
theorem av3:bf Tryz.prog 228 afV:=by apply ah<;>first|exact⟨by kernel_rfl,by kernel_rfl,by kernel_rfl⟩|kernel_rfl
def afU:TI:=⟨1,8,.other,[.oD],none⟩
theorem av2:bf Tryz.prog 229 afU:=by apply ah<;>first|exact trivial|kernel_rfl
def te:TE:=(ao 1 aAU (ao 2 aAT (ao 3 aAS (ao 4 aAR (ao 5 afT (ao 6 aAQ (ao 7 aAP (ao 8 aAO (ao 9 aAN (ao 10 aqu (ao 11 aqt (ao 12 aqs (ao 15 aqr (ao 16 aqq (ao 17 aqp (ao 20 aqo (ao 21 aqn (ao 22 abf (ao 23 aqm (ao 24 aql (ao 25 abe (ao 26 aqk (ao 27 aqj (ao 28 aqi (ao 29 aqh (ao 30 aqg (ao 32 aqf (ao 33 aqe (ao 34 aqd (ao 35 aqc (ao 37 aqb (ao 38 aqa (ao 39 ap9 (ao 40 ap8 (ao 41 Rl (ao 42 ap7 (ao 43 ap6 (ao 44 ap5 (ao 45 ap4 (ao 46 ap3 (ao 47 ap2 (ao 48 ap1 (ao 49 ap0 (ao 50 apZ (ao 51 apY (ao 52 apX (ao 53 apW (ao 55 apV (ao 57 apU (ao 59 apT (ao 61 apS (ao 62 apR (ao 63 apQ (ao 64 apP (ao 65 apO (ao 66 apN (ao 67 apM (ao 68 apL (ao 69 apK (ao 71 apJ (ao 72 apI (ao 73 apH (ao 74 apG (ao 75 apF (ao 76 apE (ao 77 apD (ao 78 apC (ao 79 apB (ao 80 apA (ao 81 apz (ao 82 apy (ao 83 apx (ao 84 apw (ao 85 apv (ao 86 apu (ao 87 apt (ao 89 aps (ao 90 apr (ao 91 apq (ao 92 app (ao 94 apo (ao 95 apn (ao 96 apm (ao 97 apl (ao 98 apk (ao 99 apj (ao 100 ahM (ao 101 ahL (ao 102 ahK (ao 103 ahJ (ao 105 ahI (ao 106 ahH (ao 107 ahG (ao 108 ahF (ao 109 ahE (ao 110 ahD (ao 111 ahC (ao 112 ahB (ao 113 ahA (ao 114 ahz (ao 115 ahy (ao 116 ahx (ao 117 ahw (ao 119 ahv (ao 120 ahu (ao 121 aht (ao 122 ahs (ao 123 ahr (ao 124 ahq (ao 125 ahp (ao 126 aho (ao 127 ahn (ao 128 ahm (ao 129 ahl (ao 131 ahk (ao 132 ahj (ao 133 ahi (ao 134 ahh (ao 135 ahg (ao 136 ahf (ao 137 ahe (ao 138 ahd (ao 140 ahc (ao 141 ahb (ao 142 aha (ao 143 ag9 (ao 144 ag8 (ao 145 ag7 (ao 146 ag6 (ao 147 ag5 (ao 148 ag4 (ao 149 ag3 (ao 150 ag2 (ao 151 ag1 (ao 152 ag0 (ao 153 agZ (ao 154 agY (ao 155 agX (ao 156 agW (ao 158 agV (ao 159 agU (ao 160 agT (ao 161 agS (ao 162 agR (ao 163 agQ (ao 164 agP (ao 165 agO (ao 166 agN (ao 168 agM (ao 170 agL (ao 171 agK (ao 172 agJ (ao 173 agI (ao 174 agH (ao 175 agG (ao 176 agF (ao 177 agE (ao 178 agD (ao 179 agC (ao 180 agB (ao 181 agA (ao 182 agz (ao 183 agy (ao 185 agx (ao 186 agw (ao 187 agv (ao 188 agu (ao 189 agt (ao 190 ags (ao 191 agr (ao 192 agq (ao 193 agp (ao 194 ago (ao 195 agn (ao 196 agm (ao 197 agl (ao 198 agk (ao 199 agj (ao 200 agi (ao 201 agh (ao 202 agf (ao 203 age (ao 204 agd (ao 205 agc (ao 206 agb (ao 207 aga (ao 208 af9 (ao 209 af8 (ao 210 af7 (ao 211 af6 (ao 214 af5 (ao 217 af4 (ao 218 af3 (ao 219 af2 (ao 220 af1 (ao 221 af0 (ao 222 afZ (ao 223 afY (ao 226 afX (ao 227 afW (ao 228 afV (ao 229 afU aGt))))))))))))))))))))))))))))))))))))))))))))))))))))))))))))))))))))))))))))))))))))))))))))))))))))))))))))))))))))))))))))))))))))))))))))))))))))))))))))))))))))))))))))))))))))))))))))))))))))))))))
theorem al:l7 Tryz.prog te:=(ac aGs (ac aGr (ac aGq (ac aGp (ac aGo (ac aGn (ac aGm (ac aGl (ac aGk (ac aDu (ac aDt (ac aDs (ac aDr (ac aDq (ac aDp (ac aDo (ac aDn (ac aDm (ac aDl (ac aDk (ac aDj (ac aDi (ac aDh (ac aDg (ac aDf (ac aDe (ac aDd (ac aDc (ac aDb (ac aDa (ac aC9 (ac aC8 (ac aC7 (ac aC6 (ac aC5 (ac aC4 (ac aC3 (ac aC2 (ac aC1 (ac aC0 (ac aCZ (ac aCY (ac aCX (ac aCW (ac aCV (ac aCU (ac aCT (ac aCS (ac aCR (ac aCQ (ac aCP (ac aCO (ac aCN (ac aCM (ac aCL (ac aCK (ac aCJ (ac aCI (ac aCH (ac aCG (ac aCF (ac aCE (ac aCD (ac aCC (ac aCB (ac aCA (ac aCz (ac aCy (ac aCx (ac aCw (ac aCv (ac aCu (ac aCt (ac aCs (ac aCr (ac aCq (ac aCp (ac aCo (ac aCn (ac aCm (ac aCl (ac aCk (ac aCj (ac aCi (ac aCh (ac aCg (ac axT (ac axS (ac axR (ac axQ (ac axP (ac axO (ac axN (ac axM (ac axL (ac axK (ac axJ (ac axI (ac axH (ac axG (ac axF (ac axE (ac axD (ac axC (ac axB (ac axA (ac axz (ac axy (ac axx (ac axw (ac axv (ac axu (ac axt (ac axs (ac axr (ac axq (ac axp (ac axo (ac axn (ac axm (ac axl (ac axk (ac axj (ac axi (ac axh (ac axg (ac axf (ac axe (ac axd (ac axc (ac axb (ac axa (ac aw9 (ac aw8 (ac aw7 (ac aw6 (ac aw5 (ac aw4 (ac aw3 (ac aw2 (ac aw1 (ac aw0 (ac awZ (ac awY (ac awX (ac awW (ac awV (ac awU (ac awT (ac awS (ac awR (ac awQ (ac awP (ac awO (ac awN (ac awM (ac awL (ac awK (ac awJ (ac awI (ac awH (ac awG (ac awF (ac awE (ac awD (ac awC (ac awB (ac awA (ac awz (ac awy (ac awx (ac aww (ac awv (ac awu (ac awt (ac aws (ac awr (ac awq (ac awp (ac awo (ac awn (ac awm (ac awl (ac awk (ac awj (ac awi (ac awh (ac awg (ac awf (ac awe (ac awd (ac awc (ac awb (ac awa (ac av9 (ac av8 (ac av7 (ac av6 (ac av5 (ac av4 (ac av3 (ac av2 axU))))))))))))))))))))))))))))))))))))))))))))))))))))))))))))))))))))))))))))))))))))))))))))))))))))))))))))))))))))))))))))))))))))))))))))))))))))))))))))))))))))))))))))))))))))))))))))))))))))))))))
theorem follows:Tryz.prog.follows .mixedOrders=true:=by kernel_rfl
def E0:Env:=at7
theorem aAA:aK Tryz.prog E0:=at6
theorem avs:ar E0:=adX
theorem aBx:aO Tryz.prog te E0:=aE follows al aAA avs
end Go.Proofs.YtohjofabochgfaaGreat

namespace Go.Proofs.YtohjofabochgfaaGreat
open Sx Go
def j2 (b:List UInt8) (k:Nat):UInt64:=(List.range k).foldl (λv (i:Nat)=>v|||bH (UInt8.toUInt64 (b.getD i 0)) (8*(i:Int))) 0
theorem NH (b:List UInt8) (k:Nat):j2 b (k+1)=j2 b k|||bH (UInt8.toUInt64 (b.getD k 0)) (8*(k:Int)):=by
 simp [j2,List.range_succ]
end Go.Proofs.YtohjofabochgfaaGreat

namespace Go.Proofs.YtohjofabochgfaaGreat
open Sx Go
set_option maxRecDepth 100000
def lI:ap:=⟨[.val false (.list .u8)],[],true,0,false⟩
abbrev Qn:Type:=((List (UInt8))×Unit)×(Unit)
def zM:Shape:=⟨22,[(3,.val false .u64),(6,.val false (.list .u8)),(7,.val false .int),(8,.val false .int)],[],0,true⟩
abbrev da:Type:=((UInt64)×(List (UInt8))×(Int)×(Int)×Unit)×(Unit)
def uy:Shape:=⟨22,[(3,.val false .u64)],[],0,true⟩
abbrev lH:Type:=((UInt64)×Unit)×(Unit)
def ajO:SE->Option Shape:=gI [(0,uy)] none
def TT (a3:UInt64) (a6:List (UInt8)) (a7:Int) (a8:Int):OT (Sum da aI):=
 (.br (decide (a8<a7))
 (gd [inB a8 (List.length a6),inR ((8:Int)*a8),decide ((0:Int)<=(8:Int)*a8),inR (a8+(1:Int))] (.ok (.inl ((a3|||bH (UInt8.toUInt64 (List.getD a6 (Int.toNat a8) (0:UInt8))) ((8:Int)*a8),(a6,(a7,(a8+(1:Int),())))),()))))
 (.ok (.inr ⟨(.exit 0,uy),((a3,()),())⟩)))
def pF (s:da):OT (Sum da aI):=TT (s.1.1) (s.1.2.1) (s.1.2.2.1) (s.1.2.2.2.1)
theorem az4 (s:da) (Q:Sum da aI->Prop):wps te E0 ax 1000 (bg (ak Tryz.f127) 0) (zM.inj s) (cz zM ajO (Q:Sum zM.T aI->Prop))=(pF s).wpR Q:=by kernel_rfl
def GV (g0_0:da->lH) (s:da):OT aI:=(.ok ⟨(.exit 0,uy),g0_0 s⟩)
def TS:av:=⟨[.val false .u64],[],false⟩
def YQ:SV->Option av:=λ_=>some TS
def aea (ok0:da->Bool) (g0_0:da->lH) (a0:List (UInt8)):OT lI.Y:=
 let z0:(UInt64×List UInt8×Int×Int×PUnit)×PUnit:=(((0:UInt64),a0,(↑(List.length a0):Int),(0:Int),()),())
 (gd [ok0 z0] (.ok ⟨TS,(((g0_0 z0).fst.fst,()),())⟩))
theorem aFq (ok0:da->Bool) (g0_0:da->lH) (x:Qn) (Q:lI.Y->Prop):wpf te E0 (be 0 (cE zM 0 ok0 (GV g0_0)) ax) 1000 Tryz.f127 (lI.inp.inj x).tm (lI.inp.inj x).hp (fnK lI YQ Q) (λ_ _=>False)=(aea ok0 g0_0 (x.1.1)).wpR Q:=by kernel_rfl
theorem anv (ok0:da->Bool) (g0_0:da->lH) (h0:∀ s:da,ok0 s=true->∃ m e,aA (pF) m s=some e/\(GV g0_0 s).run=some e) (pre:Qn->Bool) (F:Qn->OT lI.Y) (hF:∀ (x:Qn) oy,pre x=true->(F x).run=some oy->(aea ok0 g0_0 (x.1.1)).run=some oy):aa Tryz.prog 127 (lI.aD pre F):=
 aB al aAA aBx (f:=127) (fn:=Tryz.f127) (c:=ak Tryz.f127) (by kernel_rfl) (by kernel_rfl) (by kernel_rfl) (S:=lI) (k:=0) (by kernel_rfl) (λR hR=>(aG (c:=(ak Tryz.f127)) (by kernel_rfl) (id:=0) (by kernel_rfl) (ba al aAA aBx (sh:=zM) hR (xs:=ajO) (aF (by kernel_rfl) (by kernel_rfl) hR) aN ae (n:=1000) (T:=pF) (λs Q=>az4 s Q) (ok:=ok0) (f:=GV g0_0) h0) ae)) (n:=1000) (sel:=YQ) (λv o h=>by cases h;rfl) (pre:=pre) (F:=F) (T:=λx=>aea ok0 g0_0 (x.1.1)) (λx Q=>aFq ok0 g0_0 x Q) hF
def YR (s:da):Bool:=decide (s.1.1=0/\s.1.2.2.1=(s.1.2.1.length:Int)/\s.1.2.2.2.1=0/\s.1.2.1.length<=4096)
def ajP (s:da):lH:=((j2 s.1.2.1 s.1.2.1.length,()),())
theorem az6:∀ s,YR s=true->∃ m e,aA pF m s=some e/\(GV ajP s).run=some e:=by
 rintro ⟨⟨v,b,n,i,⟨⟩⟩,⟨⟩⟩ h
 have h':=of_decide_eq_true h
 dsimp only at h'
 obtain ⟨rfl,rfl,rfl,hl⟩:=h'
 have:=Jr (T:=pF) (λk=>((j2 b k,b,(b.length:Int),(k:Int),()),())) b.length (e:=⟨(.exit 0,uy),((j2 b b.length,()),())⟩) (λk hk=> ?_) ?_ 0 (Nat.zero_le _)
 ·obtain ⟨m,hm⟩:=this
  exact ⟨m,_,hm,rfl⟩
 ·unfold pF TT
  dsimp only
  rw [OT.az (decide_eq_true (by omega)),aj (by simp;exact ⟨aM (by omega),aL (by omega),by omega,aL (by omega)⟩),OT.cI,NH]
  rfl
 ·unfold pF TT
  dsimp only
  rw [OT.aq (decide_eq_false (by omega)),OT.cI]
def lG (x:Qn):Bool:=decide (x.1.1.length<=4096)
def auD (x:Qn):OT lI.Y:=.ok ⟨TS,((j2 x.1.1 x.1.1.length,()),())⟩
theorem az5:aa Tryz.prog 127 (lI.aD lG auD):=anv YR ajP az6 _ _ λx oy hp ho=>by
 rw [<-ho]
 have hp':=of_decide_eq_true hp
 refine (OT.az ?_).trans ?_
 ·exact decide_eq_true ⟨rfl,rfl,rfl,hp'⟩
 ·rfl
def Dq:bw:=(lI.aD lG auD)
theorem ad9:aa Tryz.prog 127 Dq:=az5
theorem ad8:aC Dq:=ay
def MJ:Env:=aw 127 Dq E0
theorem Es:aK Tryz.prog MJ:=af ad9 aAA
theorem F5:ar MJ:=ab ad8 avs
theorem afe:aO Tryz.prog te MJ:=aE follows al Es F5
def qI:ap:=⟨[.val false .u64,.val false .int],[],true,0,false⟩
abbrev ald:Type:=((UInt64)×(Int)×Unit)×(Unit)
def abG:av:=⟨[.val false .u64],[],false⟩
def ahY:SV->Option av:=λ_=>some abG
def aqR (a0:UInt64) (a1:Int):OT qI.Y:=
 (.ok ⟨abG,((bH a0 (↑(UInt64.toNat (i2u a1&&&(63:UInt64))):Int)|||aZ a0 (↑(UInt64.toNat ((64:UInt64)-(i2u a1&&&(63:UInt64)))):Int),()),())⟩)
theorem aGz (x:ald) (Q:qI.Y->Prop):wpf te MJ ax 1000 Tryz.f167 (qI.inp.inj x).tm (qI.inp.inj x).hp (fnK qI ahY Q) (λ_ _=>False)=(aqR (x.1.1) (x.1.2.1)).wpR Q:=by kernel_rfl
theorem aqQ (pre:ald->Bool) (F:ald->OT qI.Y) (hF:∀ (x:ald) oy,pre x=true->(F x).run=some oy->(aqR (x.1.1) (x.1.2.1)).run=some oy):aa Tryz.prog 167 (qI.aD pre F):=
 aB al Es afe (f:=167) (fn:=Tryz.f167) (c:=ak Tryz.f167) (by kernel_rfl) (by kernel_rfl) (by kernel_rfl) (S:=qI) (k:=0) (by kernel_rfl) (λR hR=>ae) (n:=1000) (sel:=ahY) (λv o h=>by cases h;rfl) (pre:=pre) (F:=F) (T:=λx=>aqR (x.1.1) (x.1.2.1)) (λx Q=>aGz x Q) hF
def rotl (a:UInt64) (n:Int):UInt64:=bH a (UInt64.toNat (i2u n&&&63):Int)|||aZ a (UInt64.toNat (64-(i2u n&&&63)):Int)
def ahZ (_:ald):Bool:=true
def aAZ (x:ald):OT qI.Y:=.ok ⟨abG,((rotl x.1.1 x.1.2.1,()),())⟩
theorem aDO:aa Tryz.prog 167 (qI.aD ahZ aAZ):=aqQ _ _ λx oy _ ho=>ho
def H5:bw:=(qI.aD ahZ aAZ)
theorem alc:aa Tryz.prog 167 H5:=aDO
theorem alb:aC H5:=ay
def ZO:Env:=aw 167 H5 MJ
theorem LO:aK Tryz.prog ZO:=af alc Es
theorem LP:ar ZO:=ab alb F5
theorem an3:aO Tryz.prog te ZO:=aE follows al LO LP
def su:ap:=⟨[.val false .u8],[],true,0,false⟩
abbrev anD:Type:=((UInt8)×Unit)×(Unit)
def T0:av:=⟨[.val false .int],[],false⟩
def ajV:SV->Option av:=λ_=>some T0
def auN (a0:UInt8):OT su.Y:=
 (.br (decide ((97:UInt8)<=a0))
 (gd [inR ((↑(UInt8.toNat (a0-(97:UInt8))):Int)+(10:Int))] (.ok ⟨T0,(((↑(UInt8.toNat (a0-(97:UInt8))):Int)+(10:Int),()),())⟩))
 (.ok ⟨T0,(((↑(UInt8.toNat (a0-(48:UInt8))):Int),()),())⟩))
theorem aHv (x:anD) (Q:su.Y->Prop):wpf te ZO ax 1000 Tryz.f158 (su.inp.inj x).tm (su.inp.inj x).hp (fnK su ajV Q) (λ_ _=>False)=(auN (x.1.1)).wpR Q:=by kernel_rfl
theorem auM (pre:anD->Bool) (F:anD->OT su.Y) (hF:∀ (x:anD) oy,pre x=true->(F x).run=some oy->(auN (x.1.1)).run=some oy):aa Tryz.prog 158 (su.aD pre F):=
 aB al LO an3 (f:=158) (fn:=Tryz.f158) (c:=ak Tryz.f158) (by kernel_rfl) (by kernel_rfl) (by kernel_rfl) (S:=su) (k:=0) (by kernel_rfl) (λR hR=>ae) (n:=1000) (sel:=ajV) (λv o h=>by cases h;rfl) (pre:=pre) (F:=F) (T:=λx=>auN (x.1.1)) (λx Q=>aHv x Q) hF
def nib (c:UInt8):Int:=if 97<=c then (UInt8.toNat (c-97):Int)+10 else (UInt8.toNat (c-48):Int)
def ajW (_:anD):Bool:=true
def ajX (x:anD):OT su.Y:=.ok ⟨T0,((nib x.1.1,()),())⟩
theorem aFv:aa Tryz.prog 158 (su.aD ajW ajX):=auM _ _ λx oy _ ho=>by
 rw [<-ho]
 have hlt:=(x.1.1-97).toNat_lt
 by_cases h:97<=x.1.1
 ·refine (OT.az (decide_eq_true h)).trans ((aj (by simp;exact aL (by omega))).trans ?_)
  simp only [ajX,nib,if_pos h]
 ·refine (OT.aq (decide_eq_false h)).trans ?_
  simp only [ajX,nib,if_neg h]
def KO:bw:=(su.aD ajW ajX)
theorem anC:aa Tryz.prog 158 KO:=aFv
theorem anB:aC KO:=ay
def aad:Env:=aw 158 KO ZO
theorem MK:aK Tryz.prog aad:=af anC LO
theorem ML:ar aad:=ab anB LP
theorem aoe:aO Tryz.prog te aad:=aE follows al MK ML
def iI:ap:=⟨[],[],true,0,false⟩
abbrev Ds:Type:=(Unit)×(Unit)
def KM:av:=⟨[.val true (.arr 8 .u64)],[],false⟩
def Qo:SV->Option av:=λ_=>some KM
def TY:OT iI.Y:=
 (.ok ⟨KM,(([(7640891576956012808:UInt64),(13503953896175478587:UInt64),(4354685564936845355:UInt64),(11912009170470909681:UInt64),(5840696475078001361:UInt64),(11170449401992604703:UInt64),(2270897969802886507:UInt64),(6620516959819538809:UInt64)],()),())⟩)
theorem az7 (x:Ds) (Q:iI.Y->Prop):wpf te aad ax 1000 Tryz.f126 (iI.inp.inj x).tm (iI.inp.inj x).hp (fnK iI Qo Q) (λ_ _=>False)=(TY).wpR Q:=by kernel_rfl
theorem aeg (pre:Ds->Bool) (F:Ds->OT iI.Y) (hF:∀ (x:Ds) oy,pre x=true->(F x).run=some oy->(TY).run=some oy):aa Tryz.prog 126 (iI.aD pre F):=
 aB al MK aoe (f:=126) (fn:=Tryz.f126) (c:=ak Tryz.f126) (by kernel_rfl) (by kernel_rfl) (by kernel_rfl) (S:=iI) (k:=0) (by kernel_rfl) (λR hR=>ae) (n:=1000) (sel:=Qo) (λv o h=>by cases h;rfl) (pre:=pre) (F:=F) (T:=λx=>TY) (λx Q=>az7 x Q) hF
def bIV:List UInt64:= [0x6a09e667f3bcc908,0xbb67ae8584caa73b,0x3c6ef372fe94f82b,0xa54ff53a5f1d36f1,0x510e527fade682d1,0x9b05688c2b3e6c1f,0x1f83d9abfb41bd6b,0x5be0cd19137e2179]
def Qp (_:Ds):Bool:=true
def ajS (_:Ds):OT iI.Y:=.ok ⟨KM,((bIV,()),())⟩
theorem auK:aa Tryz.prog 126 (iI.aD Qp ajS):=aeg _ _ λx oy _ ho=>ho
def wS:bw:=(iI.aD Qp ajS)
theorem YV:aa Tryz.prog 126 wS:=auK
theorem YU:aC wS:=ay
def Bc:Env:=aw 126 wS aad
theorem xq:aK Tryz.prog Bc:=af YV MK
theorem Bb:ar Bc:=ab YU ML
theorem aab:aO Tryz.prog te Bc:=aE follows al xq Bb
def iJ:ap:=⟨[],[],true,0,false⟩
abbrev Dt:Type:=(Unit)×(Unit)
def KN:av:=⟨[.val true (.arr 10 .str)],[],false⟩
def Qq:SV->Option av:=λ_=>some KN
def TZ:OT iJ.Y:=
 (.ok ⟨KN,(([[(48:UInt8),(49:UInt8),(50:UInt8),(51:UInt8),(52:UInt8),(53:UInt8),(54:UInt8),(55:UInt8),(56:UInt8),(57:UInt8),(97:UInt8),(98:UInt8),(99:UInt8),(100:UInt8),(101:UInt8),(102:UInt8)],[(101:UInt8),(97:UInt8),(52:UInt8),(56:UInt8),(57:UInt8),(102:UInt8),(100:UInt8),(54:UInt8),(49:UInt8),(99:UInt8),(48:UInt8),(50:UInt8),(98:UInt8),(55:UInt8),(53:UInt8),(51:UInt8)],[(98:UInt8),(56:UInt8),(99:UInt8),(48:UInt8),(53:UInt8),(50:UInt8),(102:UInt8),(100:UInt8),(97:UInt8),(101:UInt8),(51:UInt8),(54:UInt8),(55:UInt8),(49:UInt8),(57:UInt8),(52:UInt8)],[(55:UInt8),(57:UInt8),(51:UInt8),(49:UInt8),(100:UInt8),(99:UInt8),(98:UInt8),(101:UInt8),(50:UInt8),(54:UInt8),(53:UInt8),(97:UInt8),(52:UInt8),(48:UInt8),(102:UInt8),(56:UInt8)],[(57:UInt8),(48:UInt8),(53:UInt8),(55:UInt8),(50:UInt8),(52:UInt8),(97:UInt8),(102:UInt8),(101:UInt8),(49:UInt8),(98:UInt8),(99:UInt8),(54:UInt8),(56:UInt8),(51:UInt8),(100:UInt8)],[(50:UInt8),(99:UInt8),(54:UInt8),(97:UInt8),(48:UInt8),(98:UInt8),(56:UInt8),(51:UInt8),(52:UInt8),(100:UInt8),(55:UInt8),(53:UInt8),(102:UInt8),(101:UInt8),(49:UInt8),(57:UInt8)],[(99:UInt8),(53:UInt8),(49:UInt8),(102:UInt8),(101:UInt8),(100:UInt8),(52:UInt8),(97:UInt8),(48:UInt8),(55:UInt8),(54:UInt8),(51:UInt8),(57:UInt8),(50:UInt8),(56:UInt8),(98:UInt8)],[(100:UInt8),(98:UInt8),(55:UInt8),(101:UInt8),(99:UInt8),(49:UInt8),(51:UInt8),(57:UInt8),(53:UInt8),(48:UInt8),(102:UInt8),(52:UInt8),(56:UInt8),(54:UInt8),(50:UInt8),(97:UInt8)],[(54:UInt8),(102:UInt8),(101:UInt8),(57:UInt8),(98:UInt8),(51:UInt8),(48:UInt8),(56:UInt8),(99:UInt8),(50:UInt8),(100:UInt8),(55:UInt8),(49:UInt8),(52:UInt8),(97:UInt8),(53:UInt8)],[(97:UInt8),(50:UInt8),(56:UInt8),(52:UInt8),(55:UInt8),(54:UInt8),(49:UInt8),(53:UInt8),(102:UInt8),(98:UInt8),(57:UInt8),(101:UInt8),(51:UInt8),(99:UInt8),(100:UInt8),(48:UInt8)]],()),())⟩)
theorem az8 (x:Dt) (Q:iJ.Y->Prop):wpf te Bc ax 1000 Tryz.f156 (iJ.inp.inj x).tm (iJ.inp.inj x).hp (fnK iJ Qq Q) (λ_ _=>False)=(TZ).wpR Q:=by kernel_rfl
theorem aeh (pre:Dt->Bool) (F:Dt->OT iJ.Y) (hF:∀ (x:Dt) oy,pre x=true->(F x).run=some oy->(TZ).run=some oy):aa Tryz.prog 156 (iJ.aD pre F):=
 aB al xq aab (f:=156) (fn:=Tryz.f156) (c:=ak Tryz.f156) (by kernel_rfl) (by kernel_rfl) (by kernel_rfl) (S:=iJ) (k:=0) (by kernel_rfl) (λR hR=>ae) (n:=1000) (sel:=Qq) (λv o h=>by cases h;rfl) (pre:=pre) (F:=F) (T:=λx=>TZ) (λx Q=>az8 x Q) hF
def gj:List (List UInt8):= [[48,49,50,51,52,53,54,55,56,57,97,98,99,100,101,102],
 [101,97,52,56,57,102,100,54,49,99,48,50,98,55,53,51],
 [98,56,99,48,53,50,102,100,97,101,51,54,55,49,57,52],
 [55,57,51,49,100,99,98,101,50,54,53,97,52,48,102,56],
 [57,48,53,55,50,52,97,102,101,49,98,99,54,56,51,100],
 [50,99,54,97,48,98,56,51,52,100,55,53,102,101,49,57],
 [99,53,49,102,101,100,52,97,48,55,54,51,57,50,56,98],
 [100,98,55,101,99,49,51,57,53,48,102,52,56,54,50,97],
 [54,102,101,57,98,51,48,56,99,50,100,55,49,52,97,53],
 [97,50,56,52,55,54,49,53,102,98,57,101,51,99,100,48]]
def Qr (_:Dt):Bool:=true
def ajT (_:Dt):OT iJ.Y:=.ok ⟨KN,((gj,()),())⟩
theorem auL:aa Tryz.prog 156 (iJ.aD Qr ajT):=aeh _ _ λx oy _ ho=>ho
def wT:bw:=(iJ.aD Qr ajT)
theorem YX:aa Tryz.prog 156 wT:=auL
theorem YW:aC wT:=ay
def Bf:Env:=aw 156 wT Bc
theorem xr:aK Tryz.prog Bf:=af YX xq
theorem Be:ar Bf:=ab YW Bb
theorem aac:aO Tryz.prog te Bf:=aE follows al xr Be
def sy:ap:=⟨[.ptr 0 0 0,.val false .int,.val false .int,.val false .int,.val false .int,.val false .u64,.val false .u64],[(0,.row .u64)],false,1,true⟩
abbrev anJ:Type:=((Unit)×(Int)×(Int)×(Int)×(Int)×(UInt64)×(UInt64)×Unit)×((List (UInt64))×Unit)
def aek:av:=⟨[],[(0,.row .u64)],false⟩
def ajZ:SV->Option av:=λ_=>some aek
def auR (a1:Int) (a2:Int) (a3:Int) (a4:Int) (a5:UInt64) (a6:UInt64) (c0:List (UInt64)):OT sy.Y:=
 let z0:Bool:=inB a1 16
 let z1:Nat:=List.length c0
 let z2:Bool:=decide (Int.toNat a1+0<z1)
 let z3:Bool:=inB a2 16
 let z4:Bool:=inB a4 16
 let z5:List UInt64:=List.set c0 (Int.toNat a1+0) (List.getD c0 (Int.toNat a1+0) (0:UInt64)+(List.getD c0 (Int.toNat a2+0) (0:UInt64)+a5))
 let z6:Nat:=List.length z5
 let z7:Bool:=decide (Int.toNat a4+0<z6)
 let z8:Bool:=inB a3 16
 let z9:List UInt64:=List.set z5 (Int.toNat a4+0) (rotl (List.getD z5 (Int.toNat a4+0) (0:UInt64)^^^List.getD z5 (Int.toNat a1+0) (0:UInt64)) (-32:Int))
 let z10:Nat:=List.length z9
 let z11:Bool:=decide (Int.toNat a3+0<z10)
 let z12:List UInt64:=List.set z9 (Int.toNat a3+0) (List.getD z9 (Int.toNat a3+0) (0:UInt64)+List.getD z9 (Int.toNat a4+0) (0:UInt64))
 let z13:Nat:=List.length z12
 let z14:Bool:=decide (Int.toNat a2+0<z13)
 let z15:List UInt64:=List.set z12 (Int.toNat a2+0) (rotl (List.getD z12 (Int.toNat a2+0) (0:UInt64)^^^List.getD z12 (Int.toNat a3+0) (0:UInt64)) (-24:Int))
 let z16:Nat:=List.length z15
 let z17:Bool:=decide (Int.toNat a1+0<z16)
 let z18:List UInt64:=List.set z15 (Int.toNat a1+0) (List.getD z15 (Int.toNat a1+0) (0:UInt64)+(List.getD z15 (Int.toNat a2+0) (0:UInt64)+a6))
 let z19:Nat:=List.length z18
 let z20:Bool:=decide (Int.toNat a4+0<z19)
 let z21:List UInt64:=List.set z18 (Int.toNat a4+0) (rotl (List.getD z18 (Int.toNat a4+0) (0:UInt64)^^^List.getD z18 (Int.toNat a1+0) (0:UInt64)) (-16:Int))
 let z22:Nat:=List.length z21
 let z23:Bool:=decide (Int.toNat a3+0<z22)
 let z24:List UInt64:=List.set z21 (Int.toNat a3+0) (List.getD z21 (Int.toNat a3+0) (0:UInt64)+List.getD z21 (Int.toNat a4+0) (0:UInt64))
 let z25:Nat:=List.length z24
 let z26:Bool:=decide (Int.toNat a2+0<z25)
 (gd [z0,z2,z3,decide (Int.toNat a2+0<z1),z0,z2,z4,z7,z0,decide (Int.toNat a1+0<z6),z4,z7,z8,z11,z4,decide (Int.toNat a4+0<z10),z8,z11,z3,z14,z8,decide (Int.toNat a3+0<z13),z3,z14,z0,z17,z3,decide (Int.toNat a2+0<z16),z0,z17,z4,z20,z0,decide (Int.toNat a1+0<z19),z4,z20,z8,z23,z4,decide (Int.toNat a4+0<z22),z8,z23,z3,z26,z8,decide (Int.toNat a3+0<z25),z3,z26] (.ok ⟨aek,((),(List.set z24 (Int.toNat a2+0) (rotl (List.getD z24 (Int.toNat a2+0) (0:UInt64)^^^List.getD z24 (Int.toNat a3+0) (0:UInt64)) (-63:Int)),()))⟩))
theorem aHx (x:anJ) (Q:sy.Y->Prop):wpf te Bf ax 1000 Tryz.f159 (sy.inp.inj x).tm (sy.inp.inj x).hp (fnK sy ajZ Q) (λ_ _=>False)=(auR (x.1.2.1) (x.1.2.2.1) (x.1.2.2.2.1) (x.1.2.2.2.2.1) (x.1.2.2.2.2.2.1) (x.1.2.2.2.2.2.2.1) (x.2.1)).wpR Q:=by kernel_rfl
theorem auQ (pre:anJ->Bool) (F:anJ->OT sy.Y) (hF:∀ (x:anJ) oy,pre x=true->(F x).run=some oy->(auR (x.1.2.1) (x.1.2.2.1) (x.1.2.2.2.1) (x.1.2.2.2.2.1) (x.1.2.2.2.2.2.1) (x.1.2.2.2.2.2.2.1) (x.2.1)).run=some oy):aa Tryz.prog 159 (sy.aD pre F):=
 aB al xr aac (f:=159) (fn:=Tryz.f159) (c:=ak Tryz.f159) (by kernel_rfl) (by kernel_rfl) (by kernel_rfl) (S:=sy) (k:=1) (by kernel_rfl) (λR hR=>ae) (n:=1000) (sel:=ajZ) (λv o h=>by cases h;rfl) (pre:=pre) (F:=F) (T:=λx=>auR (x.1.2.1) (x.1.2.2.1) (x.1.2.2.2.1) (x.1.2.2.2.2.1) (x.1.2.2.2.2.2.1) (x.1.2.2.2.2.2.2.1) (x.2.1)) (λx Q=>aHx x Q) hF
def zq (v:List UInt64) (a b c d:Nat) (x y:UInt64):List UInt64:=
 let v1:=v.set a (v.getD a 0+(v.getD b 0+x))
 let v2:=v1.set d (rotl (v1.getD d 0^^^v1.getD a 0) (-32))
 let v3:=v2.set c (v2.getD c 0+v2.getD d 0)
 let v4:=v3.set b (rotl (v3.getD b 0^^^v3.getD c 0) (-24))
 let v5:=v4.set a (v4.getD a 0+(v4.getD b 0+y))
 let v6:=v5.set d (rotl (v5.getD d 0^^^v5.getD a 0) (-16))
 let v7:=v6.set c (v6.getD c 0+v6.getD d 0)
 v7.set b (rotl (v7.getD b 0^^^v7.getD c 0) (-63))
theorem fC (v:List UInt64) (a b c d:Nat) (x y:UInt64):(zq v a b c d x y).length=v.length:=by
 simp only [zq,List.length_set]
def pH (x:anJ):Bool:=inB x.1.2.1 16&&inB x.1.2.2.1 16&&inB x.1.2.2.2.1 16&&inB x.1.2.2.2.2.1 16&&decide (x.2.1.length=16)
def aBs (x:anJ):OT sy.Y:=.ok ⟨aek,((),(zq x.2.1 x.1.2.1.toNat x.1.2.2.1.toNat x.1.2.2.2.1.toNat x.1.2.2.2.2.1.toNat x.1.2.2.2.2.2.1 x.1.2.2.2.2.2.2.1,()))⟩
theorem aFx:aa Tryz.prog 159 (sy.aD pH aBs):=auQ _ _ λx oy hp ho=>by
 rw [<-ho]
 obtain ⟨⟨⟨⟩,a,b,c,d,x,y,⟨⟩⟩,⟨v,⟨⟩⟩⟩:=x
 simp only [pH,Bool.and_eq_true,decide_eq_true_eq] at hp
 obtain ⟨⟨⟨⟨ha,hb⟩,hc⟩,hd⟩,hv⟩:=hp
 have na:=vq ha
 have nb:=vq hb
 have nc:=vq hc
 have nd:=vq hd
 refine (aj ?_).trans rfl
 simp only [List.length_set,hv,ha,hb,hc,hd,Nat.add_zero,na,nb,nc,nd,decide_true,List.all_cons,List.all_nil,Bool.and_self]
def KT:bw:=(sy.aD pH aBs)
theorem anI:aa Tryz.prog 159 KT:=aFx
theorem anH:aC KT:=ay
def aaf:Env:=aw 159 KT Bf
theorem MN:aK Tryz.prog aaf:=af anI xr
theorem MO:ar aaf:=ab anH Be
theorem aof:aO Tryz.prog te aaf:=aE follows al MN MO
def K1:ap:=⟨[.val false .int,.ptr 0 0 0,.ptr 1 0 0],[(0,.row .u64),(1,.cells [.val false .str])],false,2,true⟩
abbrev aFU:Type:=((Int)×(Unit)×(Unit)×Unit)×((List (UInt64))×((List UInt8)×Unit)×Unit)
def au7:av:=⟨[.val false .u64],[(0,.row .u64),(1,.cells [.val false .str])],false⟩
def au6:SV->Option av:=λ_=>some au7
def aFA (a0:Int) (c0:List (UInt64)) (c1_0:List UInt8):OT K1.Y:=
 let z0:Int:=nib (List.getD c1_0 (Int.toNat a0) (0:UInt8))
 (gd [inB a0 (List.length c1_0),inB z0 16,decide (Int.toNat z0+0<List.length c0)] (.ok ⟨au7,((List.getD c0 (Int.toNat z0+0) (0:UInt64),()),(c0,((c1_0,()),())))⟩))
theorem aIb (x:aFU) (Q:K1.Y->Prop):wpf te aaf ax 1000 Tryz.f157 (K1.inp.inj x).tm (K1.inp.inj x).hp (fnK K1 au6 Q) (λ_ _=>False)=(aFA (x.1.1) (x.2.1) (x.2.2.1.1)).wpR Q:=by kernel_rfl
theorem aAu (pre:aFU->Bool) (F:aFU->OT K1.Y) (hF:∀ (x:aFU) oy,pre x=true->(F x).run=some oy->(aFA (x.1.1) (x.2.1) (x.2.2.1.1)).run=some oy):aa Tryz.prog 157 (K1.aD pre F):=
 aB al MN aof (f:=157) (fn:=Tryz.f157) (c:=ak Tryz.f157) (by kernel_rfl) (by kernel_rfl) (by kernel_rfl) (S:=K1) (k:=2) (by kernel_rfl) (λR hR=>ae) (n:=1000) (sel:=au6) (λv o h=>by cases h;rfl) (pre:=pre) (F:=F) (T:=λx=>aFA (x.1.1) (x.2.1) (x.2.2.1.1)) (λx Q=>aIb x Q) hF
def atF (m:List UInt64) (row:List UInt8) (i:Int):UInt64:=m.getD (nib (row.getD i.toNat 0)).toNat 0
def pK (x:aFU):Bool:=inB x.1.1 x.2.2.1.1.length&&inB (nib (x.2.2.1.1.getD x.1.1.toNat 0)) 16&&decide (x.2.1.length=16)
def aHz (x:aFU):OT K1.Y:=.ok ⟨au7,((atF x.2.1 x.2.2.1.1 x.1.1,()),(x.2.1,((x.2.2.1.1,()),())))⟩
theorem aHy:aa Tryz.prog 157 (K1.aD pK aHz):=aAu _ _ λx oy hp ho=>by
 rw [<-ho]
 obtain ⟨⟨i,⟨⟩,⟨⟩,⟨⟩⟩,⟨m,⟨row,⟨⟩⟩,⟨⟩⟩⟩:=x
 simp only [pK,Bool.and_eq_true,decide_eq_true_eq] at hp
 obtain ⟨⟨h1,h2⟩,h3⟩:=hp
 have n2:=vq h2
 refine (aj ?_).trans rfl
 simp only [h1,h2,h3,Nat.add_zero,n2,decide_true,List.all_cons,List.all_nil,Bool.and_self]
def Uc:bw:=(K1.aD pK aHz)
theorem au8:aa Tryz.prog 157 Uc:=aHy
theorem au5:aC Uc:=ay
def NB:Env:=aw 157 Uc aaf
theorem mN:aK Tryz.prog NB:=af au8 MN
theorem QQ:ar NB:=ab au5 MO
theorem oB:aO Tryz.prog te NB:=aE follows al mN QQ
def lP:ap:=⟨[.val true (.arr 8 .u64),.val true (.arr 128 .u8),.val false .u64,.val false .bool],[],true,0,false⟩
abbrev QA:Type:=((List (UInt64))×(List (UInt8))×(UInt64)×(Bool)×Unit)×(Unit)
def zZ:Shape:=⟨127,[(4,.ptr 0 0 0),(5,.ptr 1 0 0),(8,.ptr 2 0 0),(9,.ptr 3 0 0),(11,.ptr 4 0 0),(37,.val false .int)],[(0,.row .u64),(1,.row .u8),(2,.row .u64),(3,.row .u64),(4,.row .u64)],0,true⟩
abbrev cO:Type:=((Unit)×(Unit)×(Unit)×(Unit)×(Unit)×(Int)×Unit)×((List (UInt64))×(List (UInt8))×(List (UInt64))×(List (UInt64))×(List (UInt64))×Unit)
def uK:Shape:=⟨127,[(4,.ptr 0 0 0),(8,.ptr 1 0 0),(9,.ptr 2 0 0),(11,.ptr 3 0 0)],[(0,.row .u64),(1,.row .u64),(2,.row .u64),(3,.row .u64)],0,true⟩
abbrev lO:Type:=((Unit)×(Unit)×(Unit)×(Unit)×Unit)×((List (UInt64))×(List (UInt64))×(List (UInt64))×(List (UInt64))×Unit)
def aj8:SE->Option Shape:=gI [(0,uK)] none
def aAs (a37:Int) (c0:List (UInt64)) (c1:List (UInt8)) (c2:List (UInt64)) (c3:List (UInt64)) (c4:List (UInt64)):OT (Sum cO aI):=
 let z0:Bool:=inR ((8:Int)*a37)
 let z1:List UInt8:=List.take (Int.toNat ((8:Int)*a37+(8:Int)-(8:Int)*a37)) (List.drop (Int.toNat ((8:Int)*a37)) c1)
 (.br (decide (a37<(16:Int)))
 (gd [z0,z0,inR ((8:Int)*a37+(8:Int)),decide (128<=List.length c1)&&bj ((8:Int)*a37) ((8:Int)*a37+(8:Int)) 128,lG ((z1,()),()),inB a37 16,decide (Int.toNat a37+0<List.length c4),inR (a37+(1:Int))] (.ok (.inl (((),((),((),((),((),(a37+(1:Int),())))))),(c0,(c1,(c2,(c3,(List.set c4 (Int.toNat a37+0) (j2 z1 (List.length z1)),())))))))))
 (.ok (.inr ⟨(.exit 0,uK),(((),((),((),((),())))),(c0,(c2,(c3,(c4,())))))⟩)))
def Ae (s:cO):OT (Sum cO aI):=aAs (s.1.2.2.2.2.2.1) (s.2.1) (s.2.2.1) (s.2.2.2.1) (s.2.2.2.2.1) (s.2.2.2.2.2.1)
theorem aAh (s:cO) (Q:Sum cO aI->Prop):wps te NB ax 1000 (bg (ak Tryz.f146) 0) (zZ.inj s) (cz zZ aj8 (Q:Sum zZ.T aI->Prop))=(Ae s).wpR Q:=by kernel_rfl
def G4 (g0_0:cO->lO) (s:cO):OT aI:=(.ok ⟨(.exit 0,uK),g0_0 s⟩)
def zY:Shape:=⟨127,[(4,.ptr 0 0 0),(8,.ptr 1 0 0),(9,.ptr 2 0 0),(11,.ptr 3 0 0),(13,.ptr 4 0 0),(51,.val false .int)],[(0,.row .u64),(1,.row .u64),(2,.row .u64),(3,.row .u64),(4,.row .str)],0,true⟩
abbrev cN:Type:=((Unit)×(Unit)×(Unit)×(Unit)×(Unit)×(Int)×Unit)×((List (UInt64))×(List (UInt64))×(List (UInt64))×(List (UInt64))×(List (List UInt8))×Unit)
def zX:Shape:=⟨127,[(4,.ptr 0 0 0),(8,.ptr 1 0 0),(9,.ptr 2 0 0),(11,.ptr 3 0 0),(13,.ptr 4 0 0),(16,.fn 157 [3,5]),(51,.val false .int),(59,.val false .int)],[(0,.row .u64),(1,.row .u64),(2,.row .u64),(3,.row .u64),(4,.row .str),(5,.cells [.val false .str])],0,true⟩
abbrev bX:Type:=((Unit)×(Unit)×(Unit)×(Unit)×(Unit)×(Unit)×(Int)×(Int)×Unit)×((List (UInt64))×(List (UInt64))×(List (UInt64))×(List (UInt64))×(List (List UInt8))×((List UInt8)×Unit)×Unit)
def uI:Shape:=⟨127,[(4,.ptr 0 0 0),(8,.ptr 1 0 0),(9,.ptr 2 0 0),(11,.ptr 3 0 0),(13,.ptr 4 0 0),(16,.fn 157 [3,5]),(51,.val false .int)],[(0,.row .u64),(1,.row .u64),(2,.row .u64),(3,.row .u64),(4,.row .str),(5,.cells [.val false .str])],0,true⟩
abbrev fH:Type:=((Unit)×(Unit)×(Unit)×(Unit)×(Unit)×(Unit)×(Int)×Unit)×((List (UInt64))×(List (UInt64))×(List (UInt64))×(List (UInt64))×(List (List UInt8))×((List UInt8)×Unit)×Unit)
def aj6:SE->Option Shape:=gI [(4,uI)] none
def aAq (a51:Int) (a59:Int) (c0:List (UInt64)) (c1:List (UInt64)) (c2:List (UInt64)) (c3:List (UInt64)) (c4:List (List UInt8)) (c5_0:List UInt8):OT (Sum bX aI):=
 let z0:Bool:=inR ((2:Int)*a59)
 let z1:PUnit×PUnit×PUnit:=((),(),())
 let z2:List UInt64×(List UInt8×PUnit)×PUnit:=(c3,(c5_0,()),())
 let z3:UInt64:=atF c3 c5_0 ((2:Int)*a59)
 let z4:UInt64:=atF c3 c5_0 ((2:Int)*a59+(1:Int))
 (.br (decide (a59<(4:Int)))
 (gd [inR ((4:Int)+a59),inR ((8:Int)+a59),inR ((12:Int)+a59),z0,pK (((2:Int)*a59,z1),z2),z0,inR ((2:Int)*a59+(1:Int)),pK (((2:Int)*a59+(1:Int),z1),z2),pH (((),a59,(4:Int)+a59,(8:Int)+a59,(12:Int)+a59,z3,z4,()),c2,()),inR (a59+(1:Int))] (.ok (.inl (((),((),((),((),((),((),(a51,(a59+(1:Int),())))))))),(c0,(c1,(zq c2 (Int.toNat a59) (Int.toNat ((4:Int)+a59)) (Int.toNat ((8:Int)+a59)) (Int.toNat ((12:Int)+a59)) z3 z4,(c3,(c4,((c5_0,()),()))))))))))
 (.ok (.inr ⟨(.exit 4,uI),(((),((),((),((),((),((),(a51,()))))))),(c0,(c1,(c2,(c3,(c4,((c5_0,()),())))))))⟩)))
def Ac (s:bX):OT (Sum bX aI):=aAq (s.1.2.2.2.2.2.2.1) (s.1.2.2.2.2.2.2.2.1) (s.2.1) (s.2.2.1) (s.2.2.2.1) (s.2.2.2.2.1) (s.2.2.2.2.2.1) (s.2.2.2.2.2.2.1.1)
theorem aAf (s:bX) (Q:Sum bX aI->Prop):wps te NB ax 1000 (bg (bg (ak Tryz.f146) 2) 4) (zX.inj s) (cz zX aj6 (Q:Sum zX.T aI->Prop))=(Ac s).wpR Q:=by kernel_rfl
def G2 (g4_4:bX->fH) (s:bX):OT aI:=(.ok ⟨(.exit 4,uI),g4_4 s⟩)
def zW:Shape:=⟨127,[(4,.ptr 0 0 0),(8,.ptr 1 0 0),(9,.ptr 2 0 0),(11,.ptr 3 0 0),(13,.ptr 4 0 0),(16,.fn 157 [3,5]),(51,.val false .int),(80,.val false .int)],[(0,.row .u64),(1,.row .u64),(2,.row .u64),(3,.row .u64),(4,.row .str),(5,.cells [.val false .str])],0,true⟩
abbrev bW:Type:=((Unit)×(Unit)×(Unit)×(Unit)×(Unit)×(Unit)×(Int)×(Int)×Unit)×((List (UInt64))×(List (UInt64))×(List (UInt64))×(List (UInt64))×(List (List UInt8))×((List UInt8)×Unit)×Unit)
def uH:Shape:=⟨127,[(4,.ptr 0 0 0),(8,.ptr 1 0 0),(9,.ptr 2 0 0),(11,.ptr 3 0 0),(13,.ptr 4 0 0),(51,.val false .int)],[(0,.row .u64),(1,.row .u64),(2,.row .u64),(3,.row .u64),(4,.row .str)],0,true⟩
abbrev fG:Type:=((Unit)×(Unit)×(Unit)×(Unit)×(Unit)×(Int)×Unit)×((List (UInt64))×(List (UInt64))×(List (UInt64))×(List (UInt64))×(List (List UInt8))×Unit)
def aj5:SE->Option Shape:=gI [(6,uH)] none
def aAp (a51:Int) (a80:Int) (c0:List (UInt64)) (c1:List (UInt64)) (c2:List (UInt64)) (c3:List (UInt64)) (c4:List (List UInt8)) (c5_0:List UInt8):OT (Sum bW aI):=
 let z0:Bool:=inR (a80+(1:Int))
 let z1:Int:=(4:Int)+Int.tmod (a80+(1:Int)) (4:Int)
 let z2:Int:=(8:Int)+Int.tmod (a80+(2:Int)) (4:Int)
 let z3:Int:=(12:Int)+Int.tmod (a80+(3:Int)) (4:Int)
 let z4:Bool:=inR ((2:Int)*a80)
 let z5:PUnit×PUnit×PUnit:=((),(),())
 let z6:List UInt64×(List UInt8×PUnit)×PUnit:=(c3,(c5_0,()),())
 let z7:UInt64:=atF c3 c5_0 ((8:Int)+(2:Int)*a80)
 let z8:UInt64:=atF c3 c5_0 ((9:Int)+(2:Int)*a80)
 (.br (decide (a80<(4:Int)))
 (gd [z0,inR z1,inR (a80+(2:Int)),inR z2,inR (a80+(3:Int)),inR z3,z4,inR ((8:Int)+(2:Int)*a80),pK (((8:Int)+(2:Int)*a80,z5),z6),z4,inR ((9:Int)+(2:Int)*a80),pK (((9:Int)+(2:Int)*a80,z5),z6),pH (((),a80,z1,z2,z3,z7,z8,()),c2,()),z0] (.ok (.inl (((),((),((),((),((),((),(a51,(a80+(1:Int),())))))))),(c0,(c1,(zq c2 (Int.toNat a80) (Int.toNat z1) (Int.toNat z2) (Int.toNat z3) z7 z8,(c3,(c4,((c5_0,()),()))))))))))
 (.ok (.inr ⟨(.exit 6,uH),(((),((),((),((),((),(a51,())))))),(c0,(c1,(c2,(c3,(c4,()))))))⟩)))
def Ab (s:bW):OT (Sum bW aI):=aAp (s.1.2.2.2.2.2.2.1) (s.1.2.2.2.2.2.2.2.1) (s.2.1) (s.2.2.1) (s.2.2.2.1) (s.2.2.2.2.1) (s.2.2.2.2.2.1) (s.2.2.2.2.2.2.1.1)
theorem aAe (s:bW) (Q:Sum bW aI->Prop):wps te NB ax 1000 (bg (bg (ak Tryz.f146) 2) 6) (zW.inj s) (cz zW aj5 (Q:Sum zW.T aI->Prop))=(Ab s).wpR Q:=by kernel_rfl
def G1 (g6_6:bW->fG) (s:bW):OT aI:=(.ok ⟨(.exit 6,uH),g6_6 s⟩)
def uJ:Shape:=⟨127,[(4,.ptr 0 0 0),(8,.ptr 1 0 0),(9,.ptr 2 0 0)],[(0,.row .u64),(1,.row .u64),(2,.row .u64)],0,true⟩
abbrev lN:Type:=((Unit)×(Unit)×(Unit)×Unit)×((List (UInt64))×(List (UInt64))×(List (UInt64))×Unit)
def aj7:SE->Option Shape:=gI [(2,uJ)] none
def aAr (ok4:bX->Bool) (g4_4:bX->fH) (ok6:bW->Bool) (g6_6:bW->fG) (a51:Int) (c0:List (UInt64)) (c1:List (UInt64)) (c2:List (UInt64)) (c3:List (UInt64)) (c4:List (List UInt8)):OT (Sum cN aI):=
 let z0:Int:=Int.tmod a51 (10:Int)
 let z1:(PUnit×PUnit×PUnit×PUnit×PUnit×PUnit×Int×Int×PUnit)×List UInt64×List UInt64×List UInt64×List UInt64×List (List UInt8)×(List UInt8×PUnit)×PUnit:=(((),(),(),(),(),(),a51,(0:Int),()),c0,c1,c2,c3,c4,(List.getD c4 (Int.toNat z0+0) [],()),())
 let z2:(PUnit×PUnit×PUnit×PUnit×PUnit×PUnit×Int×PUnit)×List UInt64×List UInt64×List UInt64×List UInt64×List (List UInt8)×(List UInt8×PUnit)×PUnit:=g4_4 z1
 let z3:=z2.snd
 let z4:=z3.snd
 let z5:=z4.snd
 let z6:=z5.snd
 let z7:=z6.snd
 let z8:(PUnit×PUnit×PUnit×PUnit×PUnit×PUnit×Int×Int×PUnit)×List UInt64×List UInt64×List UInt64×List UInt64×List (List UInt8)×(List UInt8×PUnit)×PUnit:=(((),(),(),(),(),(),z2.fst.snd.snd.snd.snd.snd.snd.fst,(0:Int),()),z3.fst,z4.fst,z5.fst,z6.fst,z7.fst,(z7.snd.fst.fst,()),())
 let z9:(PUnit×PUnit×PUnit×PUnit×PUnit×Int×PUnit)×List UInt64×List UInt64×List UInt64×List UInt64×List (List UInt8)×PUnit:=g6_6 z8
 let z10:=z9.snd
 let z11:=z10.snd
 let z12:=z11.snd
 let z13:=z12.snd
 (.br (decide (a51<(12:Int)))
 (gd [inB z0 10,decide (Int.toNat z0+0<List.length c4),ok4 z1,ok6 z8,inR (z9.fst.snd.snd.snd.snd.snd.fst+(1:Int))] (.ok (.inl (((),((),((),((),((),(z9.fst.snd.snd.snd.snd.snd.fst+(1:Int),())))))),(z10.fst,(z11.fst,(z12.fst,(z13.fst,(z13.snd.fst,())))))))))
 (.ok (.inr ⟨(.exit 2,uJ),(((),((),((),()))),(c0,(c1,(c2,()))))⟩)))
def Ad (ok4:bX->Bool) (g4_4:bX->fH) (ok6:bW->Bool) (g6_6:bW->fG) (s:cN):OT (Sum cN aI):=aAr ok4 g4_4 ok6 g6_6 (s.1.2.2.2.2.2.1) (s.2.1) (s.2.2.1) (s.2.2.2.1) (s.2.2.2.2.1) (s.2.2.2.2.2.1)
theorem aAg (ok4:bX->Bool) (g4_4:bX->fH) (ok6:bW->Bool) (g6_6:bW->fG) (s:cN) (Q:Sum cN aI->Prop):wps te NB (be 6 (cE zW 6 ok6 (G1 g6_6)) (be 4 (cE zX 4 ok4 (G2 g4_4)) ax)) 1000 (bg (ak Tryz.f146) 2) (zY.inj s) (cz zY aj7 (Q:Sum zY.T aI->Prop))=(Ad ok4 g4_4 ok6 g6_6 s).wpR Q:=by kernel_rfl
def G3 (g2_2:cN->lN) (s:cN):OT aI:=(.ok ⟨(.exit 2,uJ),g2_2 s⟩)
def zV:Shape:=⟨127,[(4,.ptr 0 0 0),(8,.ptr 1 0 0),(9,.ptr 2 0 0),(109,.val false .int)],[(0,.row .u64),(1,.row .u64),(2,.row .u64)],0,true⟩
abbrev cM:Type:=((Unit)×(Unit)×(Unit)×(Int)×Unit)×((List (UInt64))×(List (UInt64))×(List (UInt64))×Unit)
def uG:Shape:=⟨127,[(4,.ptr 0 0 0),(8,.ptr 1 0 0)],[(0,.row .u64),(1,.row .u64)],0,true⟩
abbrev lM:Type:=((Unit)×(Unit)×Unit)×((List (UInt64))×(List (UInt64))×Unit)
def aj4:SE->Option Shape:=gI [(8,uG)] none
def aAo (a109:Int) (c0:List (UInt64)) (c1:List (UInt64)) (c2:List (UInt64)):OT (Sum cM aI):=
 let z0:Bool:=inB a109 8
 let z1:Bool:=decide (Int.toNat a109+0<List.length c0)
 let z2:Nat:=List.length c2
 (.br (decide (a109<(8:Int)))
 (gd [z0,z1,inB a109 16,decide (Int.toNat a109+0<z2),inR (a109+(8:Int)),inB (a109+(8:Int)) 16,decide (Int.toNat (a109+(8:Int))+0<z2),z0,z1,inR (a109+(1:Int))] (.ok (.inl (((),((),((),(a109+(1:Int),())))),(List.set c0 (Int.toNat a109+0) (List.getD c0 (Int.toNat a109+0) (0:UInt64)^^^(List.getD c2 (Int.toNat a109+0) (0:UInt64)^^^List.getD c2 (Int.toNat (a109+(8:Int))+0) (0:UInt64))),(c1,(c2,())))))))
 (.ok (.inr ⟨(.exit 8,uG),(((),((),())),(c0,(c1,())))⟩)))
def Aa (s:cM):OT (Sum cM aI):=aAo (s.1.2.2.2.1) (s.2.1) (s.2.2.1) (s.2.2.2.1)
theorem aAd (s:cM) (Q:Sum cM aI->Prop):wps te NB ax 1000 (bg (ak Tryz.f146) 8) (zV.inj s) (cz zV aj4 (Q:Sum zV.T aI->Prop))=(Aa s).wpR Q:=by kernel_rfl
def G0 (g8_8:cM->lM) (s:cM):OT aI:=(.ok ⟨(.exit 8,uG),g8_8 s⟩)
def GZ:av:=⟨[.val true (.arr 8 .u64)],[],false⟩
def Zl:SV->Option av:=λ_=>some GZ
def aey (ok0:cO->Bool) (g0_0:cO->lO) (ok4:bX->Bool) (g4_4:bX->fH) (ok6:bW->Bool) (g6_6:bW->fG) (ok2:cN->Bool) (g2_2:cN->lN) (ok8:cM->Bool) (g8_8:cM->lM) (a0:List (UInt64)) (a1:List (UInt8)) (a2:UInt64) (a3:Bool):OT lP.Y:=
 let z0:PUnit×PUnit×PUnit×PUnit×PUnit×Int×PUnit:=((),(),(),(),(),(0:Int),())
 let z1:List UInt64:=tab a0 8 (0:UInt64)
 let z2:List UInt8:=tab a1 128 (0:UInt8)
 let z3:List UInt64:= []++(List.take 8 z1++List.drop (0+min (List.length z1) 8) [(0:UInt64),(0:UInt64),(0:UInt64),(0:UInt64),(0:UInt64),(0:UInt64),(0:UInt64),(0:UInt64),(0:UInt64),(0:UInt64),(0:UInt64),(0:UInt64),(0:UInt64),(0:UInt64),(0:UInt64),(0:UInt64)])
 let z4:List UInt64:=List.take 8 z3++([(7640891576956012808:UInt64),(13503953896175478587:UInt64),(4354685564936845355:UInt64),(11912009170470909681:UInt64),(5840696475078001361:UInt64),(11170449401992604703:UInt64),(2270897969802886507:UInt64),(6620516959819538809:UInt64)]++List.drop 16 z3)
 let z5:List UInt64:=List.set z4 12 (List.getD z4 12 0^^^a2)
 let z6:List UInt64×PUnit:=([(0:UInt64),(0:UInt64),(0:UInt64),(0:UInt64),(0:UInt64),(0:UInt64),(0:UInt64),(0:UInt64),(0:UInt64),(0:UInt64),(0:UInt64),(0:UInt64),(0:UInt64),(0:UInt64),(0:UInt64),(0:UInt64)],())
 let z7:(PUnit×PUnit×PUnit×PUnit×PUnit×Int×PUnit)×List UInt64×List UInt8×List UInt64×List UInt64×List UInt64×PUnit:=(z0,z1,z2,[(0:UInt64),(0:UInt64),(0:UInt64),(0:UInt64),(0:UInt64),(0:UInt64),(0:UInt64),(0:UInt64)],List.set z5 14 (~~~List.getD z5 14 0),z6)
 let z8:PUnit×PUnit×PUnit×PUnit×PUnit×Int×PUnit:=((),(),(),(),(),(0:Int),())
 let z9:=(g0_0 z7).snd
 let z10:=z9.snd
 let z11:=z10.snd
 let z12:List (List UInt8)×PUnit:=([List.getD gj 0 [],List.getD gj 1 [],List.getD gj 2 [],List.getD gj 3 [],List.getD gj 4 [],List.getD gj 5 [],List.getD gj 6 [],List.getD gj 7 [],List.getD gj 8 [],List.getD gj 9 []],())
 let z13:(PUnit×PUnit×PUnit×PUnit×PUnit×Int×PUnit)×List UInt64×List UInt64×List UInt64×List UInt64×List (List UInt8)×PUnit:=(z8,z9.fst,z10.fst,z11.fst,z11.snd.fst,z12)
 let z14:PUnit×PUnit×PUnit×Int×PUnit:=((),(),(),(0:Int),())
 let z15:=(g2_2 z13).snd
 let z16:=z15.snd
 let z17:(PUnit×PUnit×PUnit×Int×PUnit)×List UInt64×List UInt64×List UInt64×PUnit:=(z14,z15.fst,z16.fst,z16.snd.fst,())
 let z18:=(g8_8 z17).snd
 let z19:=z18.fst
 let z20:=z18.snd.fst
 let z21:List UInt64:=lay z20 z19 8 (0:UInt64)
 let z22:(PUnit×PUnit×PUnit×PUnit×PUnit×Int×PUnit)×List UInt64×List UInt8×List UInt64×List UInt64×List UInt64×PUnit:=(z0,z1,z2,[(0:UInt64),(0:UInt64),(0:UInt64),(0:UInt64),(0:UInt64),(0:UInt64),(0:UInt64),(0:UInt64)],z5,z6)
 let z23:=(g0_0 z22).snd
 let z24:=z23.snd
 let z25:=z24.snd
 let z26:(PUnit×PUnit×PUnit×PUnit×PUnit×Int×PUnit)×List UInt64×List UInt64×List UInt64×List UInt64×List (List UInt8)×PUnit:=(z8,z23.fst,z24.fst,z25.fst,z25.snd.fst,z12)
 let z27:=(g2_2 z26).snd
 let z28:=z27.snd
 let z29:(PUnit×PUnit×PUnit×Int×PUnit)×List UInt64×List UInt64×List UInt64×PUnit:=(z14,z27.fst,z28.fst,z28.snd.fst,())
 let z30:=(g8_8 z29).snd
 let z31:=z30.fst
 let z32:=z30.snd.fst
 let z33:List UInt64:=lay z32 z31 8 (0:UInt64)
 (.br (a3)
 (gd [ok0 z7,ok2 z13,ok8 z17,decide (8<=List.length z19),decide ((8/1:Nat)+0<=List.length z20),decide (8<=List.length z21)] (.ok ⟨GZ,((tab z21 8 (0:UInt64),()),())⟩))
 (gd [ok0 z22,ok2 z26,ok8 z29,decide (8<=List.length z31),decide ((8/1:Nat)+0<=List.length z32),decide (8<=List.length z33)] (.ok ⟨GZ,((tab z33 8 (0:UInt64),()),())⟩)))
theorem aFz (ok0:cO->Bool) (g0_0:cO->lO) (ok4:bX->Bool) (g4_4:bX->fH) (ok6:bW->Bool) (g6_6:bW->fG) (ok2:cN->Bool) (g2_2:cN->lN) (ok8:cM->Bool) (g8_8:cM->lM) (x:QA) (Q:lP.Y->Prop):wpf te NB (be 8 (cE zV 8 ok8 (G0 g8_8)) (be 2 (cE zY 2 ok2 (G3 g2_2)) (be 0 (cE zZ 0 ok0 (G4 g0_0)) ax))) 1000 Tryz.f146 (lP.inp.inj x).tm (lP.inp.inj x).hp (fnK lP Zl Q) (λ_ _=>False)=(aey ok0 g0_0 ok4 g4_4 ok6 g6_6 ok2 g2_2 ok8 g8_8 (x.1.1) (x.1.2.1) (x.1.2.2.1) (x.1.2.2.2.1)).wpR Q:=by kernel_rfl
theorem anN (ok0:cO->Bool) (g0_0:cO->lO) (ok4:bX->Bool) (g4_4:bX->fH) (ok6:bW->Bool) (g6_6:bW->fG) (ok2:cN->Bool) (g2_2:cN->lN) (ok8:cM->Bool) (g8_8:cM->lM) (h0:∀ s:cO,ok0 s=true->∃ m e,aA (Ae) m s=some e/\(G4 g0_0 s).run=some e) (h4:∀ s:bX,ok4 s=true->∃ m e,aA (Ac) m s=some e/\(G2 g4_4 s).run=some e) (h6:∀ s:bW,ok6 s=true->∃ m e,aA (Ab) m s=some e/\(G1 g6_6 s).run=some e) (h2:∀ s:cN,ok2 s=true->∃ m e,aA (Ad ok4 g4_4 ok6 g6_6) m s=some e/\(G3 g2_2 s).run=some e) (h8:∀ s:cM,ok8 s=true->∃ m e,aA (Aa) m s=some e/\(G0 g8_8 s).run=some e) (pre:QA->Bool) (F:QA->OT lP.Y) (hF:∀ (x:QA) oy,pre x=true->(F x).run=some oy->(aey ok0 g0_0 ok4 g4_4 ok6 g6_6 ok2 g2_2 ok8 g8_8 (x.1.1) (x.1.2.1) (x.1.2.2.1) (x.1.2.2.2.1)).run=some oy):aa Tryz.prog 146 (lP.aD pre F):=
 aB al mN oB (f:=146) (fn:=Tryz.f146) (c:=ak Tryz.f146) (by kernel_rfl) (by kernel_rfl) (by kernel_rfl) (S:=lP) (k:=0) (by kernel_rfl) (λR hR=>(aG (c:=(ak Tryz.f146)) (by kernel_rfl) (id:=8) (by kernel_rfl) (ba al mN oB (sh:=zV) hR (xs:=aj4) (aF (by kernel_rfl) (by kernel_rfl) hR) aN ae (n:=1000) (T:=Aa) (λs Q=>aAd s Q) (ok:=ok8) (f:=G0 g8_8) h8) (aG (c:=(ak Tryz.f146)) (by kernel_rfl) (id:=2) (by kernel_rfl) (ba al mN oB (sh:=zY) hR (xs:=aj7) (aF (by kernel_rfl) (by kernel_rfl) hR) aN (aG (c:=(bg (ak Tryz.f146) 2)) (by kernel_rfl) (id:=6) (by kernel_rfl) (ba al mN oB (sh:=zW) hR (xs:=aj5) (aF (by kernel_rfl) (by kernel_rfl) hR) aN ae (n:=1000) (T:=Ab) (λs Q=>aAe s Q) (ok:=ok6) (f:=G1 g6_6) h6) (aG (c:=(bg (ak Tryz.f146) 2)) (by kernel_rfl) (id:=4) (by kernel_rfl) (ba al mN oB (sh:=zX) hR (xs:=aj6) (aF (by kernel_rfl) (by kernel_rfl) hR) aN ae (n:=1000) (T:=Ac) (λs Q=>aAf s Q) (ok:=ok4) (f:=G2 g4_4) h4) ae)) (n:=1000) (T:=Ad ok4 g4_4 ok6 g6_6) (λs Q=>aAg ok4 g4_4 ok6 g6_6 s Q) (ok:=ok2) (f:=G3 g2_2) h2) (aG (c:=(ak Tryz.f146)) (by kernel_rfl) (id:=0) (by kernel_rfl) (ba al mN oB (sh:=zZ) hR (xs:=aj8) (aF (by kernel_rfl) (by kernel_rfl) hR) aN ae (n:=1000) (T:=Ae) (λs Q=>aAh s Q) (ok:=ok0) (f:=G4 g0_0) h0) ae)))) (n:=1000) (sel:=Zl) (λv o h=>by cases h;rfl) (pre:=pre) (F:=F) (T:=λx=>aey ok0 g0_0 ok4 g4_4 ok6 g6_6 ok2 g2_2 ok8 g8_8 (x.1.1) (x.1.2.1) (x.1.2.2.1) (x.1.2.2.2.1)) (λx Q=>aFz ok0 g0_0 ok4 g4_4 ok6 g6_6 ok2 g2_2 ok8 g8_8 x Q) hF
def aov (b:List UInt8) (i:Nat):UInt64:=j2 ((b.drop (8*i)).take 8) 8
def oH (b:List UInt8):List UInt64:=upto (λk m=>m.set k (aov b k)) (List.replicate 16 0) 16
def RD (row:List UInt8):Bool:=decide (row.length=16)&&(List.range 16).all λi=>inB (nib (row.getD i 0)) 16
theorem aqP {row:List UInt8} (h:RD row=true) {i:Nat} (hi:i<16):inB (nib (row.getD i 0)) 16=true:=by
 simp only [RD,Bool.and_eq_true,List.all_eq_true] at h
 exact h.2 i (by simpa using hi)
theorem uL {m:List UInt64} {row:List UInt8} (hm:m.length=16) (hr:RD row=true) {i:Int} (h0:0<=i) (h1:i<16) (u:Unit×Unit×Unit) (u2:Unit) (u3:Unit):pK ((i,u),(m,((row,u2),u3)))=true:=by
 have hl:row.length=16:=by
  simp only [RD,Bool.and_eq_true,decide_eq_true_eq] at hr
  exact hr.1
 have:=aqP hr (i:=i.toNat) (by omega)
 simp only [pK,Bool.and_eq_true,decide_eq_true_eq]
 exact ⟨⟨aM (by omega),this⟩,hm⟩
theorem KU {v:List UInt64} (hv:v.length=16) {a b c d:Int} (ha:0<=a/\a<16) (hb:0<=b/\b<16) (hc:0<=c/\c<16) (hd:0<=d/\d<16) (x y:UInt64) (u1 u2 u3:Unit):pH ((u1,a,b,c,d,x,y,u2),(v,u3))=true:=by
 simp only [pH,Bool.and_eq_true,decide_eq_true_eq]
 exact ⟨⟨⟨⟨aM ha,aM hb⟩,aM hc⟩,aM hd⟩,hv⟩
def K0 (s:cO):Bool:=decide (s.1.2.2.2.2.2.1=0/\s.2.2.1.length=128/\s.2.2.2.2.2.1=List.replicate 16 0)
def uF (s:cO):lO:=(((),(),(),(),()),(s.2.1,s.2.2.2.1,s.2.2.2.2.1,oH s.2.2.1,()))
theorem aAn:∀ s:cO,K0 s=true->∃ m e,aA Ae m s=some e/\(G4 uF s).run=some e:=by
 rintro ⟨⟨⟨⟩,⟨⟩,⟨⟩,⟨⟩,⟨⟩,i,⟨⟩⟩,⟨c0,c1,c2,c3,c4,⟨⟩⟩⟩ h
 have h':=of_decide_eq_true h
 dsimp only at h'
 obtain ⟨rfl,hl,rfl⟩:=h'
 have:=(aR (T:=Ae) (λk m=>((((),(),(),(),(),(k:Int),()),(c0,c1,c2,c3,m,())):cO)) (λk m=>m.set k (aov c1 k))
  (λm=>(⟨(.exit 0,uK),(((),(),(),(),()),(c0,c2,c3,m,()))⟩:aI)) 16 (List.replicate 16 0) (λ_ m=>m.length=16) (by simp) (λk m hk hm=>⟨?_,by rw [List.length_set];exact hm⟩) (λm hm=> ?_)).1
 ·obtain ⟨n,hn⟩:=this
  exact ⟨n,_,hn,rfl⟩
 ·have e1:(8*(k:Int)+8-8*(k:Int)).toNat=8:=by omega
  have e2:(8*(k:Int)).toNat=8*k:=by omega
  have hw:((c1.drop (8*k)).take 8).length=8:=by simp;omega
  refine (OT.az (decide_eq_true (by dsimp only;omega))).trans ((aj ?_).trans ?_)
  ·simp only [e1,e2,hl,hm,List.all_cons,List.all_nil,Bool.and_true,Bool.and_eq_true]
   refine ⟨aL (by omega),aL (by omega),aL (by omega),⟨by decide,bu (by omega)⟩,?_,aM (by omega),decide_eq_true (by omega),aL (by omega)⟩
   simp only [lG,hw]
   decide
  ·simp only [OT.cI,e1,e2,hw,Nat.add_zero]
   rfl
 ·exact OT.aq (decide_eq_false (by dsimp only;omega))
def XQ (m:List UInt64) (row:List UInt8) (v:List UInt64):List UInt64:=upto (λk v=>zq v k (4+k) (8+k) (12+k) (atF m row (2*(k:Int))) (atF m row (2*(k:Int)+1))) v 4
def XP (m:List UInt64) (row:List UInt8) (v:List UInt64):List UInt64:=upto (λk v=>zq v k (4+(k+1)%4) (8+(k+2)%4) (12+(k+3)%4) (atF m row (8+2*(k:Int))) (atF m row (9+2*(k:Int)))) v 4
theorem mw (m:List UInt64) (row:List UInt8) (v:List UInt64):(XQ m row v).length=v.length:=by simp only [XQ,upto,fC]
theorem rF (m:List UInt64) (row:List UInt8) (v:List UInt64):(XP m row v).length=v.length:=by simp only [XP,upto,fC]
def oh (s:bX):Bool:=decide (s.1.2.2.2.2.2.2.2.1=0/\s.2.2.2.1.length=16/\s.2.2.2.2.1.length=16)&&RD s.2.2.2.2.2.2.1.1
def pJ (s:bX):fH:=(((),(),(),(),(),(),s.1.2.2.2.2.2.2.1,()),(s.2.1,s.2.2.1,XQ s.2.2.2.2.1 s.2.2.2.2.2.2.1.1 s.2.2.2.1,s.2.2.2.2.1,s.2.2.2.2.2.1,(s.2.2.2.2.2.2.1.1,()),()))
theorem aAl:∀ s:bX,oh s=true->∃ m e,aA Ac m s=some e/\(G2 pJ s).run=some e:=by
 rintro ⟨⟨⟨⟩,⟨⟩,⟨⟩,⟨⟩,⟨⟩,⟨⟩,r,i,⟨⟩⟩,⟨c0,c1,v,m,c4,⟨row,⟨⟩⟩,⟨⟩⟩⟩ h
 simp only [oh,Bool.and_eq_true,decide_eq_true_eq] at h
 obtain ⟨⟨rfl,hv,hm⟩,hr⟩:=h
 have:=(aR (T:=Ac) (λk v=>((((),(),(),(),(),(),r,(k:Int),()),(c0,c1,v,m,c4,(row,()),())):bX)) (λk v=>zq v k (4+k) (8+k) (12+k) (atF m row (2*(k:Int))) (atF m row (2*(k:Int)+1)))
  (λv=>(⟨(.exit 4,uI),(((),(),(),(),(),(),r,()),(c0,c1,v,m,c4,(row,()),()))⟩:aI)) 4 v (λ_ v=>v.length=16) hv (λk v hk hv=>⟨?_,by rw [fC];exact hv⟩) (λv hv=> ?_)).1
 ·obtain ⟨n,hn⟩:=this
  exact ⟨n,_,hn,rfl⟩
 ·have e1:(4+(k:Int)).toNat=4+k:=by omega
  have e2:(8+(k:Int)).toNat=8+k:=by omega
  have e3:(12+(k:Int)).toNat=12+k:=by omega
  refine (OT.az (decide_eq_true (by dsimp only;omega))).trans ((aj ?_).trans ?_)
  ·simp only [List.all_cons,List.all_nil,Bool.and_true,Bool.and_eq_true]
   exact ⟨aL (by omega),aL (by omega),aL (by omega),aL (by omega),uL hm hr (by omega) (by omega) _ _ _,aL (by omega),aL (by omega),uL hm hr (by omega) (by omega) _ _ _,KU hv (by omega) (by omega) (by omega) (by omega) _ _ _ _ _,aL (by omega)⟩
  ·simp only [OT.cI,e1,e2,e3]
   rfl
 ·exact OT.aq (decide_eq_false (by dsimp only;omega))
def og (s:bW):Bool:=decide (s.1.2.2.2.2.2.2.2.1=0/\s.2.2.2.1.length=16/\s.2.2.2.2.1.length=16)&&RD s.2.2.2.2.2.2.1.1
def uD (s:bW):fG:=(((),(),(),(),(),s.1.2.2.2.2.2.2.1,()),(s.2.1,s.2.2.1,XP s.2.2.2.2.1 s.2.2.2.2.2.2.1.1 s.2.2.2.1,s.2.2.2.2.1,s.2.2.2.2.2.1,()))
theorem aAk:∀ s:bW,og s=true->∃ m e,aA Ab m s=some e/\(G1 uD s).run=some e:=by
 rintro ⟨⟨⟨⟩,⟨⟩,⟨⟩,⟨⟩,⟨⟩,⟨⟩,r,i,⟨⟩⟩,⟨c0,c1,v,m,c4,⟨row,⟨⟩⟩,⟨⟩⟩⟩ h
 simp only [og,Bool.and_eq_true,decide_eq_true_eq] at h
 obtain ⟨⟨rfl,hv,hm⟩,hr⟩:=h
 have:=(aR (T:=Ab) (λk v=>((((),(),(),(),(),(),r,(k:Int),()),(c0,c1,v,m,c4,(row,()),())):bW)) (λk v=>zq v k (4+(k+1)%4) (8+(k+2)%4) (12+(k+3)%4) (atF m row (8+2*(k:Int))) (atF m row (9+2*(k:Int))))
  (λv=>(⟨(.exit 6,uH),(((),(),(),(),(),r,()),(c0,c1,v,m,c4,()))⟩:aI)) 4 v (λ_ v=>v.length=16) hv (λk v hk hv=>⟨?_,by rw [fC];exact hv⟩) (λv hv=> ?_)).1
 ·obtain ⟨n,hn⟩:=this
  exact ⟨n,_,hn,rfl⟩
 ·have t1:Int.tmod ((k:Int)+1) 4=(((k+1)%4:Nat):Int):=by rw [Int.tmod_eq_emod_of_nonneg (by omega)];omega
  have t2:Int.tmod ((k:Int)+2) 4=(((k+2)%4:Nat):Int):=by rw [Int.tmod_eq_emod_of_nonneg (by omega)];omega
  have t3:Int.tmod ((k:Int)+3) 4=(((k+3)%4:Nat):Int):=by rw [Int.tmod_eq_emod_of_nonneg (by omega)];omega
  have e1:(4+(((k+1)%4:Nat):Int)).toNat=4+(k+1)%4:=by omega
  have e2:(8+(((k+2)%4:Nat):Int)).toNat=8+(k+2)%4:=by omega
  have e3:(12+(((k+3)%4:Nat):Int)).toNat=12+(k+3)%4:=by omega
  refine (OT.az (decide_eq_true (by dsimp only;omega))).trans ((aj ?_).trans ?_)
  ·simp only [t1,t2,t3,List.all_cons,List.all_nil,Bool.and_true,Bool.and_eq_true]
   exact ⟨aL (by omega),aL (by omega),aL (by omega),aL (by omega),aL (by omega),aL (by omega),aL (by omega),aL (by omega),uL hm hr (by omega) (by omega) _ _ _,aL (by omega),aL (by omega),uL hm hr (by omega) (by omega) _ _ _,KU hv (by omega) (by omega) (by omega) (by omega) _ _ _ _ _,aL (by omega)⟩
  ·simp only [OT.cI,t1,t2,t3,e1,e2,e3]
   rfl
 ·exact OT.aq (decide_eq_false (by dsimp only;omega))
def rowAt (k:Nat):List UInt8:=gj.getD (k%10) []
theorem ayf (k:Nat):RD (rowAt k)=true:=by
 have:k%10<10:=Nat.mod_lt _ (by decide)
 unfold rowAt
 generalize k%10=j at this
 have h:∀ j:Fin 10,RD (gj.getD j.val [])=true:=by decide+kernel
 exact h ⟨j,this⟩
def j3 (m:List UInt64) (v:List UInt64):List UInt64:=upto (λk v=>XP m (rowAt k) (XQ m (rowAt k) v)) v 12
theorem kC {f:Nat->List UInt64->List UInt64} (hf:∀ k v,(f k v).length=v.length) (v:List UInt64):∀ n,(upto f v n).length=v.length
 |0=>rfl
 |n+1=>by simp only [upto,hf,kC hf v n]
def KZ (s:cN):Bool:=decide (s.1.2.2.2.2.2.1=0/\s.2.2.2.1.length=16/\s.2.2.2.2.1.length=16/\s.2.2.2.2.2.1=gj)
def uE (s:cN):lN:=(((),(),(),()),(s.2.1,s.2.2.1,j3 s.2.2.2.2.1 s.2.2.2.1,()))
theorem aAm:∀ s:cN,KZ s=true->∃ m e,aA (Ad oh pJ og uD) m s=some e/\(G3 uE s).run=some e:=by
 rintro ⟨⟨⟨⟩,⟨⟩,⟨⟩,⟨⟩,⟨⟩,i,⟨⟩⟩,⟨c0,c1,v,m,c4,⟨⟩⟩⟩ h
 have h':=of_decide_eq_true h
 dsimp only at h'
 obtain ⟨rfl,hv,hm,rfl⟩:=h'
 have:=(aR (T:=Ad oh pJ og uD) (λk v=>((((),(),(),(),(),(k:Int),()),(c0,c1,v,m,gj,())):cN)) (λk v=>XP m (rowAt k) (XQ m (rowAt k) v))
  (λv=>(⟨(.exit 2,uJ),(((),(),(),()),(c0,c1,v,()))⟩:aI)) 12 v (λ_ v=>v.length=16) hv (λk v hk hv=>⟨?_,by rw [rF,mw];exact hv⟩) (λv hv=> ?_)).1
 ·obtain ⟨n,hn⟩:=this
  exact ⟨n,_,hn,rfl⟩
 ·have t1:Int.tmod (k:Int) 10=((k%10:Nat):Int):=by rw [Int.tmod_eq_emod_of_nonneg (by omega)];omega
  have e1:((k%10:Nat):Int).toNat=k%10:=by omega
  have hr:RD (gj.getD (k%10) [])=true:=ayf k
  refine (OT.az (decide_eq_true (by dsimp only;omega))).trans ((aj ?_).trans ?_)
  ·simp only [t1,e1,List.all_cons,List.all_nil,Bool.and_true,Bool.and_eq_true]
   refine ⟨aM (by omega),decide_eq_true (show k%10+0<10 by omega),?_,?_,?_⟩
   ·simp only [oh,Bool.and_eq_true,decide_eq_true_eq]
    exact ⟨⟨trivial,hv,hm⟩,hr⟩
   ·simp only [og,pJ,Bool.and_eq_true,decide_eq_true_eq]
    exact ⟨⟨trivial,by rw [mw];exact hv,hm⟩,hr⟩
   ·exact aL (by simp only [uD,pJ];omega)
  ·have hrow:gj.getD (k%10) []=rowAt k:=rfl
   simp only [OT.cI,t1,e1,Nat.add_zero,uD,pJ,hrow]
   rfl
 ·exact OT.aq (decide_eq_false (by dsimp only;omega))
def Jk (h v:List UInt64):List UInt64:=upto (λk h=>h.set k (h.getD k 0^^^(v.getD k 0^^^v.getD (k+8) 0))) h 8
def KY (s:cM):Bool:=decide (s.1.2.2.2.1=0/\s.2.1.length=8/\s.2.2.2.1.length=16)
def uC (s:cM):lM:=(((),(),()),(Jk s.2.1 s.2.2.2.1,s.2.2.1,()))
theorem aAj:∀ s:cM,KY s=true->∃ m e,aA Aa m s=some e/\(G0 uC s).run=some e:=by
 rintro ⟨⟨⟨⟩,⟨⟩,⟨⟩,i,⟨⟩⟩,⟨h,c1,v,⟨⟩⟩⟩ hh
 have h':=of_decide_eq_true hh
 dsimp only at h'
 obtain ⟨rfl,hl,hv⟩:=h'
 have:=(aR (T:=Aa) (λk h=>((((),(),(),(k:Int),()),(h,c1,v,())):cM)) (λk h=>h.set k (h.getD k 0^^^(v.getD k 0^^^v.getD (k+8) 0)))
  (λh=>(⟨(.exit 8,uG),(((),(),()),(h,c1,()))⟩:aI)) 8 h (λ_ h=>h.length=8) hl (λk h hk hl=>⟨?_,by rw [List.length_set];exact hl⟩) (λh hl=> ?_)).1
 ·obtain ⟨n,hn⟩:=this
  exact ⟨n,_,hn,rfl⟩
 ·have e1:((k:Int)+8).toNat=k+8:=by omega
  refine (OT.az (decide_eq_true (by dsimp only;omega))).trans ((aj ?_).trans ?_)
  ·simp only [e1,hl,hv,List.all_cons,List.all_nil,Bool.and_true,Bool.and_eq_true]
   exact ⟨aM (by omega),decide_eq_true (by omega),aM (by omega),decide_eq_true (by omega),aL (by omega),aM (by omega),decide_eq_true (by omega),aM (by omega),decide_eq_true (by omega),aL (by omega)⟩
  ·simp only [OT.cI,e1,Nat.add_zero]
   rfl
 ·exact OT.aq (decide_eq_false (by dsimp only;omega))
def ql (h:List UInt64) (count:UInt64) (last:Bool):List UInt64:=
 let v:=(h++bIV).set 12 ((h++bIV).getD 12 0^^^count)
 cond last (v.set 14 (~~~v.getD 14 0)) v
def vg (h:List UInt64) (b:List UInt8) (count:UInt64) (last:Bool):List UInt64:=Jk h (j3 (oH b) (ql h count last))
theorem MW (b:List UInt8):(oH b).length=16:=by
 unfold oH;rw [kC (λk v=>List.length_set)];rfl
theorem qH (m v:List UInt64):(j3 m v).length=v.length:=kC (λk v=>by rw [rF,mw]) v 12
theorem j8 (h v:List UInt64):(Jk h v).length=h.length:=kC (λk v=>List.length_set) h 8
theorem Fe {b:List UInt8} {c0 c2 c3:List UInt64} (hb:b.length=128):K0 (((),(),(),(),(),0,()),(c0,b,c2,c3,[0,0,0,0,0,0,0,0,0,0,0,0,0,0,0,0],()))=true:=decide_eq_true ⟨rfl,hb,rfl⟩
theorem Fc {c0 c1 v m:List UInt64} (hv:v.length=16) (hm:m.length=16):KZ (((),(),(),(),(),0,()),(c0,c1,v,m,gj,()))=true:=decide_eq_true ⟨rfl,hv,hm,rfl⟩
theorem Fb {c0 c1 v:List UInt64} (h0:c0.length=8) (hv:v.length=16):KY (((),(),(),0,()),(c0,c1,v,()))=true:=decide_eq_true ⟨rfl,h0,hv⟩
def KX (x:QA):Bool:=decide (x.1.1.length=8/\x.1.2.1.length=128)
def au2 (x:QA):OT lP.Y:=.ok ⟨GZ,((vg x.1.1 x.1.2.1 x.1.2.2.1 x.1.2.2.2.1,()),())⟩
theorem aAi:aa Tryz.prog 146 (lP.aD KX au2):=anN K0 uF oh pJ og uD KZ uE KY uC aAn aAl aAk aAm aAj _ _ λx oy hp ho=>by
 rw [<-ho]
 obtain ⟨⟨h,b,count,last,⟨⟩⟩,⟨⟩⟩:=x
 simp only [KX,decide_eq_true_eq] at hp
 obtain ⟨hh,hb⟩:=hp
 have t1:tab h 8 0=h:=iO hh
 have t2:tab b 128 0=b:=iO hb
 have t3:tab gj 10 []=gj:=iO rfl
 have v1: []++(List.take 8 h++List.drop (0+min h.length 8) [(0:UInt64),0,0,0,0,0,0,0,0,0,0,0,0,0,0,0])=h++List.replicate 8 0:=by
  rw [hh,List.nil_append,List.take_of_length_le (by omega)];rfl
 have v2:List.take 8 (h++List.replicate 8 (0:UInt64))++(bIV++List.drop 16 (h++List.replicate 8 (0:UInt64)))=h++bIV:=by
  rw [List.take_append_of_le_length (by omega),List.take_of_length_le (by omega),List.drop_eq_nil_of_le (by simp;omega),List.append_nil]
 have hv:∀ c l,(ql h c l).length=16:=λc l=>by
  unfold ql
  cases l<;>simp [hh]<;>rfl
 have hm:(oH b).length=16:=MW b
 have hr:∀ c l,(j3 (oH b) (ql h c l)).length=16:=λc l=>by rw [qH];exact hv c l
 have hM:∀ c l,(vg h b c l).length=8:=λc l=>by unfold vg;rw [j8];exact hh
 have e8: [(7640891576956012808:UInt64),13503953896175478587,4354685564936845355,11912009170470909681,5840696475078001361,11170449401992604703,2270897969802886507,6620516959819538809]=bIV:=rfl
 have key:∀ M:List UInt64,M.length=8->tab (lay [(0:UInt64),0,0,0,0,0,0,0] M 8 0) 8 0=M:=λM hM=>by rw [vo (n:=8) rfl hM,iO hM]
 have l1:List.set (h++bIV) 12 ((h++bIV).getD 12 0^^^count)=ql h count false:=rfl
 have l2:List.set (ql h count false) 14 (~~~(ql h count false).getD 14 0)=ql h count true:=rfl
 have l3:∀ c l,Jk h (j3 (oH b) (ql h c l))=vg h b c l:=λ_ _=>rfl
 cases last
 ·refine (OT.aq rfl).trans ((aj ?_).trans ?_)
  ·simp only [t1,t2,t3,v1,List.all_cons,List.all_nil,Bool.and_true,Bool.and_eq_true]
   rw [e8]
   simp only [v2,uF,uE,uC,l1,l3,fS,hM]
   exact ⟨Fe hb,Fc (hv _ _) hm,Fb hh (hr _ _),rfl,rfl,rfl⟩
  ·simp only [t1,t2,t3,v1]
   rw [e8]
   simp only [v2,uF,uE,uC,l1,l3]
   rw [key _ (hM _ _)]
   rfl
 ·refine (OT.az rfl).trans ((aj ?_).trans ?_)
  ·simp only [t1,t2,t3,v1,List.all_cons,List.all_nil,Bool.and_true,Bool.and_eq_true]
   rw [e8]
   simp only [v2,uF,uE,uC,l1,l2,l3,fS,hM]
   exact ⟨Fe hb,Fc (hv _ _) hm,Fb hh (hr _ _),rfl,rfl,rfl⟩
  ·simp only [t1,t2,t3,v1]
   rw [e8]
   simp only [v2,uF,uE,uC,l1,l2,l3]
   rw [key _ (hM _ _)]
   rfl
def DB:bw:=(lP.aD KX au2)
theorem aex:aa Tryz.prog 146 DB:=aAi
theorem aew:aC DB:=ay
def MP:Env:=aw 146 DB NB
theorem Et:aK Tryz.prog MP:=af aex mN
theorem F8:ar MP:=ab aew QQ
theorem afg:aO Tryz.prog te MP:=aE follows al Et F8
def iM:ap:=⟨[.val false (.list .u8)],[],true,0,false⟩
abbrev aez:Type:=((List (UInt8))×Unit)×(Unit)
def sE:av:=⟨[.own 0],[(0,.row .u8)],false⟩
def QB:SV->Option av:=λ_=>some sE
def Ub (a0:List (UInt8)):OT iM.Y:=
 (gd [decide (((0:Nat)+List.length a0)*(1:Nat)<=(140737488355328:Nat))] (.ok ⟨sE,(((),()),([]++a0,()))⟩))
def au4:OT iM.Y:=.ok ⟨sE,(((),()),([],()))⟩
theorem aAt (x:aez) (Q:iM.Y->Prop):wpf te MP ax 1000 Tryz.f52 (iM.inp.inj x).tm (iM.inp.inj x).hp (fnK iM QB Q) (λ_ _=>False)=
 Bool.rec (motive:=λ_=>Prop) ((Ub x.1.1).wpR Q) (au4.wpR Q/\(Ub x.1.1).wpR Q) (List.isEmpty x.1.1):=by kernel_rfl
def eG (x:aez):Bool:=decide (x.1.1.length<=140737488355328)
def aj9 (x:aez):OT iM.Y:=.ok ⟨sE,(((),()),(x.1.1,()))⟩
theorem au3:aa Tryz.prog 52 (iM.aD eG aj9):=by
 refine azE al Et afg (f:=52) (fn:=Tryz.f52) (c:=ak Tryz.f52) (by kernel_rfl) (by kernel_rfl) (by kernel_rfl) (S:=iM) (k:=0) (by kernel_rfl) (Λ:=ax) (λR hR=>ae) (n:=1000) λx oy hp hr=>⟨fnK iM QB (λz=>z=oy),λ_ _=>False,?_,λv hp hq=> ?_,λ_ _ hq=>hq.elim⟩
 ·refine (aAt x _).mpr ?_
  cases hr
  have hp':x.1.1.length<=140737488355328:=of_decide_eq_true hp
  have h1:(Ub x.1.1).wpR (λz=>z=⟨sE,(((),()),(x.1.1,()))⟩):=by
   rw [OT.US]
   refine OT.qq (aj ?_) rfl
   simp only [List.all_cons,List.all_nil,Bool.and_true]
   exact decide_eq_true (by omega)
  cases hb:List.isEmpty x.1.1
  ·exact h1
  ·refine ⟨?_,h1⟩
   rw [List.isEmpty_iff.1 hb]
   rfl
 ·unfold fnK at hq
  split at hq
  ·rename_i o ho
   split at hq
   ·rename_i y hy
    subst hq
    exact ⟨by cases ho;rfl,hy⟩
   ·exact hq.elim
  ·exact hq.elim
def wX:bw:=(iM.aD eG aj9)
theorem Zn:aa Tryz.prog 52 wX:=au3
theorem Zm:aC wX:=ay
def Bn:Env:=aw 52 wX MP
theorem xz:aK Tryz.prog Bn:=af Zn Et
theorem Bm:ar Bn:=ab Zm F8
theorem aah:aO Tryz.prog te Bn:=aE follows al xz Bm
def sw:ap:=⟨[.val false .str,.val false .int],[],true,0,false⟩
abbrev anG:Type:=((List UInt8)×(Int)×Unit)×(Unit)
def KQ:av:=⟨[.oD,.val false .int],[],false⟩
def aei:av:=⟨[.ptr 0 0 0,.val false .int],[(0,.cells [.val false .int,.val false .u64,.val false .u64,.val false .u64,.val false .u64,.val false .u64,.val false .u64,.val false .u64,.val false .u64,.own 1,.val false .u64]),(1,.row .u8)],false⟩
def Y0:List av:= [KQ,aei]
def KR (a0:List UInt8) (a1:Int):OT sw.Y:=
 let z0:List UInt8:=List.take 16 a0++List.drop (List.length a0) [(0:UInt8),(0:UInt8),(0:UInt8),(0:UInt8),(0:UInt8),(0:UInt8),(0:UInt8),(0:UInt8),(0:UInt8),(0:UInt8),(0:UInt8),(0:UInt8),(0:UInt8),(0:UInt8),(0:UInt8),(0:UInt8)]
 let z1:Bool:=decide (16<=List.length z0)&&true
 let z2:List UInt8:=List.take 8 (List.drop 0 z0)
 let z3:List UInt8:=List.take 8 (List.drop 8 z0)
 (.br (decide ((16:Int)<(↑(List.length a0):Int)))
 (.ok ⟨KQ,(((),((30:Int),())),())⟩)
 (.br (decide (a1<(1:Int)))
  (.ok ⟨KQ,(((),((30:Int),())),())⟩)
  (.br (decide ((64:Int)<a1))
   (.ok ⟨KQ,(((),((30:Int),())),())⟩)
   (gd [z1,lG ((z2,()),()),z1,lG ((z3,()),())] (.ok ⟨aei,(((),((0:Int),())),((a1,((7640891576956012808:UInt64)^^^(16842752:UInt64)+i2u a1,((13503953896175478587:UInt64),((4354685564936845355:UInt64),((11912009170470909681:UInt64),((5840696475078001361:UInt64),((11170449401992604703:UInt64),((2270897969802886507:UInt64)^^^j2 z2 (List.length z2),((6620516959819538809:UInt64)^^^j2 z3 (List.length z3),((),((0:UInt64),()))))))))))),([],())))⟩)))))
theorem aHw (x:anG) (Q:sw.Y->Prop):wpf te Bn ax 1000 Tryz.f90 (sw.inp.inj x).tm (sw.inp.inj x).hp (azG sw Y0 Q) (λ_ _=>False)=(KR (x.1.1) (x.1.2.1)).wpR Q:=by kernel_rfl
theorem auO (pre:anG->Bool) (F:anG->OT sw.Y) (hF:∀ (x:anG) oy,pre x=true->(F x).run=some oy->(KR (x.1.1) (x.1.2.1)).run=some oy):aa Tryz.prog 90 (sw.aD pre F):=
 GS al xz aah (f:=90) (fn:=Tryz.f90) (c:=ak Tryz.f90) (by kernel_rfl) (by kernel_rfl) (by kernel_rfl) (S:=sw) (k:=0) (by kernel_rfl) (λR hR=>ae) (n:=1000) (outs:=Y0) (by kernel_rfl) (pre:=pre) (F:=F) (T:=λx=>KR (x.1.1) (x.1.2.1)) (λx Q=>aHw x Q) hF
def Nc (p:List UInt8):List UInt8:=p.take 16++(List.replicate 16 (0:UInt8)).drop p.length
def iS (p:List UInt8) (n:Int):Bool:=decide (16<(p.length:Int))||decide (n<1)||decide (64<n)
theorem Xi {p:List UInt8} (h:p.length<=16):(Nc p).length=16:=by
 simp only [Nc,List.length_append,List.length_take,List.length_drop,List.length_replicate]
 omega
abbrev UI:Type:=Int×UInt64×UInt64×UInt64×UInt64×UInt64×UInt64×UInt64×UInt64×Unit×UInt64×Unit
def aFh (n:Int) (h:List UInt64) (c:UInt64):UI:=(n,h.getD 0 0,h.getD 1 0,h.getD 2 0,h.getD 3 0,h.getD 4 0,h.getD 5 0,h.getD 6 0,h.getD 7 0,(),c,())
def aFK (p:List UInt8) (n:Int):List UInt64:= [0x6a09e667f3bcc908^^^(16842752+i2u n),0xbb67ae8584caa73b,0x3c6ef372fe94f82b,0xa54ff53a5f1d36f1,0x510e527fade682d1,0x9b05688c2b3e6c1f,
 0x1f83d9abfb41bd6b^^^j2 ((Nc p).take 8) 8,0x5be0cd19137e2179^^^j2 (((Nc p).drop 8).take 8) 8]
def ajY (_:anG):Bool:=true
def Qs (x:anG):OT sw.Y:=.br (iS x.1.1 x.1.2.1) (.ok ⟨KQ,(((),((30:Int),())),())⟩)
 (.ok ⟨aei,(((),((0:Int),())),(aFh x.1.2.1 (aFK x.1.1 x.1.2.1) 0,([],())))⟩)
theorem aFw:aa Tryz.prog 90 (sw.aD ajY Qs):=auO _ _ λx oy _ ho=>by
 rw [<-ho]
 obtain ⟨⟨p,n,⟨⟩⟩,⟨⟩⟩:=x
 clear ho
 by_cases h1:16<(p.length:Int)
 ·have e1:decide (16<(p.length:Int))=true:=decide_eq_true h1
  have eb:iS p n=true:=by simp only [iS,e1,Bool.true_or]
  simp only [Qs,KR,e1,eb]
  rfl
 ·have e1:decide (16<(p.length:Int))=false:=decide_eq_false h1
  by_cases h2:n<1
  ·have e2:decide (n<1)=true:=decide_eq_true h2
   have eb:iS p n=true:=by simp only [iS,e1,e2,Bool.true_or,Bool.false_or]
   simp only [Qs,KR,e1,e2,eb]
   rfl
  ·have e2:decide (n<1)=false:=decide_eq_false h2
   by_cases h3:64<n
   ·have e3:decide (64<n)=true:=decide_eq_true h3
    have eb:iS p n=true:=by simp only [iS,e1,e2,e3,Bool.false_or]
    simp only [Qs,KR,e1,e2,e3,eb]
    rfl
   ·have e3:decide (64<n)=false:=decide_eq_false h3
    have eb:iS p n=false:=by simp only [iS,e1,e2,e3,Bool.false_or]
    have hl:=Xi (p:=p) (by omega)
    have hp:p.take 16++List.drop p.length [(0:UInt8),0,0,0,0,0,0,0,0,0,0,0,0,0,0,0]=Nc p:=rfl
    have l1:((Nc p).take 8).length=8:=by simp only [List.length_take,hl];omega
    have l2:(((Nc p).drop 8).take 8).length=8:=by simp only [List.length_take,List.length_drop,hl];omega
    simp only [Qs,KR,e1,e2,e3,eb,hp,List.drop_zero,l1,l2]
    refine (aj ?_).trans rfl
    simp only [lG,hl,l1,l2]
    decide
def KP:bw:=(sw.aD ajY Qs)
theorem anF:aa Tryz.prog 90 KP:=aFw
theorem anE:aC KP:=ay
def QP:Env:=aw 90 KP Bn
theorem Bg:aK Tryz.prog QP:=af anF xz
theorem MM:ar QP:=ab anE Bm
theorem QO:aO Tryz.prog te QP:=aE follows al Bg MM
def TA (w:Sh):CSh:=.cells [.val false .int,.val false .u64,.val false .u64,.val false .u64,.val false .u64,.val false .u64,.val false .u64,.val false .u64,.val false .u64,w,.val false .u64]
def iH:ap:=⟨[.ptr 0 0 0,.val false (.list .u8)],[(0,TA (.own 1)),(1,.row .u8)],true,1,true⟩
def n9:Shape:=⟨61,[(0,.ptr 0 0 0)],[(0,TA (.val false (.list .u8))),(1,.gone)],2,true⟩
def pE:Shape:=n9
abbrev Dp:Type:=((Unit)×(List (UInt8))×Unit)×(((Int)×(UInt64)×(UInt64)×(UInt64)×(UInt64)×(UInt64)×(UInt64)×(UInt64)×(UInt64)×(Unit)×(UInt64)×Unit)×(List (UInt8))×Unit)
abbrev cn:Type:=((Unit)×Unit)×(((Int)×(UInt64)×(UInt64)×(UInt64)×(UInt64)×(UInt64)×(UInt64)×(UInt64)×(UInt64)×(List (UInt8))×(UInt64)×Unit)×(Unit)×Unit)
abbrev jH:Type:=((Unit)×Unit)×(((Int)×(UInt64)×(UInt64)×(UInt64)×(UInt64)×(UInt64)×(UInt64)×(UInt64)×(UInt64)×(List (UInt8))×(UInt64)×Unit)×(Unit)×Unit)
def YM:SE->Option Shape:=gI [(0,pE)] none
def auC (c0_0:Int) (c0_1:UInt64) (c0_2:UInt64) (c0_3:UInt64) (c0_4:UInt64) (c0_5:UInt64) (c0_6:UInt64) (c0_7:UInt64) (c0_8:UInt64) (c0_9:List (UInt8)) (c0_10:UInt64):OT (Sum cn aI):=
 let z0:Nat:=List.length c0_9
 let z1:Int:=(↑z0:Int)
 let z2:List UInt8:=List.drop 0 (List.take 128 c0_9)
 let z3:Nat:=List.length z2
 let z4:List UInt64:=vg [c0_1,c0_2,c0_3,c0_4,c0_5,c0_6,c0_7,c0_8] (tab z2 128 (0:UInt8)) (c0_10+(128:UInt64)) false
 (.br (decide ((128:Int)<z1))
 (gd [bj (0:Int) (128:Int) z0,decide (128<=z3),decide (128<=z3),bj (128:Int) z1 z0] (.ok (.inl (((),()),((c0_0,(List.getD z4 0 0,(List.getD z4 1 0,(List.getD z4 2 0,(List.getD z4 3 0,(List.getD z4 4 0,(List.getD z4 5 0,(List.getD z4 6 0,(List.getD z4 7 0,(List.drop 128 c0_9,(c0_10+(128:UInt64),()))))))))))),((),()))))))
 (.ok (.inr ⟨(.exit 0,pE),(((),()),((c0_0,(c0_1,(c0_2,(c0_3,(c0_4,(c0_5,(c0_6,(c0_7,(c0_8,(c0_9,(c0_10,()))))))))))),((),())))⟩)))
def sr (s:cn):OT (Sum cn aI):=auC (s.2.1.1) (s.2.1.2.1) (s.2.1.2.2.1) (s.2.1.2.2.2.1) (s.2.1.2.2.2.2.1) (s.2.1.2.2.2.2.2.1) (s.2.1.2.2.2.2.2.2.1) (s.2.1.2.2.2.2.2.2.2.1) (s.2.1.2.2.2.2.2.2.2.2.1) (s.2.1.2.2.2.2.2.2.2.2.2.1) (s.2.1.2.2.2.2.2.2.2.2.2.2.1)
theorem auz (s:cn) (Q:Sum cn aI->Prop):wps te QP ax 1000 (bg (ak Tryz.f109) 0) (n9.inj s) (cz n9 YM (Q:Sum n9.T aI->Prop))=(sr s).wpR Q:=by kernel_rfl
def zL (g0_0:cn->jH) (s:cn):OT aI:=(.ok ⟨(.exit 0,pE),g0_0 s⟩)
def KH:av:=⟨[],[(0,.cells [.val false .int,.val false .u64,.val false .u64,.val false .u64,.val false .u64,.val false .u64,.val false .u64,.val false .u64,.val false .u64,.own 1,.val false .u64]),(1,.row .u8)],false⟩
def Ql:SV->Option av:=λ_=>some KH
def TR (ok0:cn->Bool) (g0_0:cn->jH) (a1:List (UInt8)) (c0_0:Int) (c0_1:UInt64) (c0_2:UInt64) (c0_3:UInt64) (c0_4:UInt64) (c0_5:UInt64) (c0_6:UInt64) (c0_7:UInt64) (c0_8:UInt64) (c0_10:UInt64) (c1:List (UInt8)):OT iH.Y:=
 let z0:(PUnit×PUnit)×(Int×UInt64×UInt64×UInt64×UInt64×UInt64×UInt64×UInt64×UInt64×List UInt8×UInt64×PUnit)×PUnit×PUnit:=(((),()),(c0_0,c0_1,c0_2,c0_3,c0_4,c0_5,c0_6,c0_7,c0_8,c1++a1,c0_10,()),(),())
 let z1:=(g0_0 z0).snd.fst
 let z2:=z1.snd
 let z3:=z2.snd
 let z4:=z3.snd
 let z5:=z4.snd
 let z6:=z5.snd
 let z7:=z6.snd
 let z8:=z7.snd
 let z9:=z8.snd
 let z10:=z9.snd
 let z11:=z10.fst
 (gd [decide ((List.length c1+List.length a1)*1<=140737488355328),ok0 z0,eG ((z11,()),())] (.ok ⟨KH,((),((z1.fst,(z2.fst,(z3.fst,(z4.fst,(z5.fst,(z6.fst,(z7.fst,(z8.fst,(z9.fst,((),(z10.snd.fst,()))))))))))),(z11,())))⟩))
theorem az3 (ok0:cn->Bool) (g0_0:cn->jH) (x:Dp) (Q:iH.Y->Prop):wpf te QP (be 0 (cE n9 0 ok0 (zL g0_0)) ax) 1000 Tryz.f109 (iH.inp.inj x).tm (iH.inp.inj x).hp (fnK iH Ql Q) (λ_ _=>False)=(TR ok0 g0_0 (x.1.2.1) (x.2.1.1) (x.2.1.2.1) (x.2.1.2.2.1) (x.2.1.2.2.2.1) (x.2.1.2.2.2.2.1) (x.2.1.2.2.2.2.2.1) (x.2.1.2.2.2.2.2.2.1) (x.2.1.2.2.2.2.2.2.2.1) (x.2.1.2.2.2.2.2.2.2.2.1) (x.2.1.2.2.2.2.2.2.2.2.2.2.1) (x.2.2.1)).wpR Q:=by kernel_rfl
theorem ad7 (ok0:cn->Bool) (g0_0:cn->jH) (h0:∀ s:cn,ok0 s=true->∃ m e,aA (sr) m s=some e/\(zL g0_0 s).run=some e) (pre:Dp->Bool) (F:Dp->OT iH.Y) (hF:∀ (x:Dp) oy,pre x=true->(F x).run=some oy->(TR ok0 g0_0 (x.1.2.1) (x.2.1.1) (x.2.1.2.1) (x.2.1.2.2.1) (x.2.1.2.2.2.1) (x.2.1.2.2.2.2.1) (x.2.1.2.2.2.2.2.1) (x.2.1.2.2.2.2.2.2.1) (x.2.1.2.2.2.2.2.2.2.1) (x.2.1.2.2.2.2.2.2.2.2.1) (x.2.1.2.2.2.2.2.2.2.2.2.2.1) (x.2.2.1)).run=some oy):aa Tryz.prog 109 (iH.aD pre F):=
 aB al Bg QO (f:=109) (fn:=Tryz.f109) (c:=ak Tryz.f109) (by kernel_rfl) (by kernel_rfl) (by kernel_rfl) (S:=iH) (k:=2) (by kernel_rfl) (λR hR=>(aG (c:=(ak Tryz.f109)) (by kernel_rfl) (id:=0) (by kernel_rfl) (ba al Bg QO (sh:=n9) hR (xs:=YM) (aF (by kernel_rfl) (by kernel_rfl) hR) aN ae (n:=1000) (T:=sr) (λs Q=>auz s Q) (ok:=ok0) (f:=zL g0_0) h0) ae)) (n:=1000) (sel:=Ql) (λv o h=>by cases h;rfl) (pre:=pre) (F:=F) (T:=λx=>TR ok0 g0_0 (x.1.2.1) (x.2.1.1) (x.2.1.2.1) (x.2.1.2.2.1) (x.2.1.2.2.2.1) (x.2.1.2.2.2.2.1) (x.2.1.2.2.2.2.2.1) (x.2.1.2.2.2.2.2.2.1) (x.2.1.2.2.2.2.2.2.2.1) (x.2.1.2.2.2.2.2.2.2.2.1) (x.2.1.2.2.2.2.2.2.2.2.2.2.1) (x.2.2.1)) (λx Q=>az3 ok0 g0_0 x Q) hF
def Bo (s:List UInt64×UInt64×List UInt8):List UInt64×UInt64×List UInt8:=(vg s.1 (s.2.2.take 128) (s.2.1+128) false,s.2.1+128,s.2.2.drop 128)
def vt (s:List UInt64×UInt64×List UInt8):List UInt64×UInt64×List UInt8:=upto (λ_ s=>Bo s) s ((s.2.2.length-1)/128)
abbrev aHF:Type:=Int×UInt64×UInt64×UInt64×UInt64×UInt64×UInt64×UInt64×UInt64×List UInt8×UInt64×Unit
def aFg (n:Int) (s:List UInt64×UInt64×List UInt8):aHF:=(n,s.1.getD 0 0,s.1.getD 1 0,s.1.getD 2 0,s.1.getD 3 0,s.1.getD 4 0,s.1.getD 5 0,s.1.getD 6 0,s.1.getD 7 0,s.2.2,s.2.1,())
def aGQ (x:aHF):List UInt64×UInt64×List UInt8:=([x.2.1,x.2.2.1,x.2.2.2.1,x.2.2.2.2.1,x.2.2.2.2.2.1,x.2.2.2.2.2.2.1,x.2.2.2.2.2.2.2.1,x.2.2.2.2.2.2.2.2.1],x.2.2.2.2.2.2.2.2.2.2.1,x.2.2.2.2.2.2.2.2.2.1)
theorem sd {h:List UInt64} {b:List UInt8} {c:UInt64} {l:Bool} (hh:h.length=8):(vg h b c l).length=8:=by unfold vg;rw [j8];exact hh
def Qm (_:cn):Bool:=true
def YP (s:cn):jH:=(((),()),(aFg s.2.1.1 (vt (aGQ s.2.1)),(),()))
theorem auB:∀ s:cn,Qm s=true->∃ m e,aA sr m s=some e/\(zL YP s).run=some e:=by
 rintro ⟨⟨⟨⟩,⟨⟩⟩,⟨⟨n,h0,h1,h2,h3,h4,h5,h6,h7,w,c,⟨⟩⟩,⟨⟩,⟨⟩⟩⟩ _
 have:=(aR (T:=sr) (λ_ s=>((((),()),(aFg n s,(),())):cn)) (λ_ s=>Bo s) (λs=>(⟨(.exit 0,pE),(((),()),(aFg n s,(),()))⟩:aI)) ((w.length-1)/128) ([h0,h1,h2,h3,h4,h5,h6,h7],c,w)
  (λk s=>s.1.length=8/\s.2.2.length+128*k=w.length) ⟨rfl,by simp⟩ (λk s hk hs=>⟨?_,?_⟩) (λs hs=> ?_)).1
 ·obtain ⟨m,hm⟩:=this
  exact ⟨m,_,hm,rfl⟩
 ·obtain ⟨h,c,v⟩:=s
  obtain ⟨a1,a2⟩:=hs
  dsimp only at a1 a2
  have hv:128<v.length:=by omega
  have t1: [h.getD 0 0,h.getD 1 0,h.getD 2 0,h.getD 3 0,h.getD 4 0,h.getD 5 0,h.getD 6 0,h.getD 7 0]=h:=(rfl:_=tab h 8 0).trans (iO a1)
  have t2:tab (v.take 128) 128 0=v.take 128:=iO (by simp;omega)
  have t3:(v.take 128).length=128:=by simp;omega
  refine (OT.az (decide_eq_true (by dsimp only [aFg];omega))).trans ((aj ?_).trans ?_)
  ·simp only [aFg,List.drop_zero,t3,List.all_cons,List.all_nil,Bool.and_true,Bool.and_eq_true]
   exact ⟨bu (by omega),rfl,rfl,bu (by omega)⟩
  ·simp only [OT.cI,aFg,List.drop_zero,t1,t2]
   rfl
 ·obtain ⟨h,c,v⟩:=s
  obtain ⟨a1,a2⟩:=hs
  dsimp only at a1 a2
  refine ⟨sd a1,?_⟩
  simp only [Bo,List.length_drop]
  omega
 ·obtain ⟨h,c,v⟩:=s
  obtain ⟨a1,a2⟩:=hs
  dsimp only at a1 a2
  exact OT.aq (decide_eq_false (by dsimp only [aFg];omega))
def wA (x:UI) (w:List UInt8):List UInt64×UInt64×List UInt8:=([x.2.1,x.2.2.1,x.2.2.2.1,x.2.2.2.2.1,x.2.2.2.2.2.1,x.2.2.2.2.2.2.1,x.2.2.2.2.2.2.2.1,x.2.2.2.2.2.2.2.2.1],x.2.2.2.2.2.2.2.2.2.2.1,w)
def iN (s:List UInt64×UInt64×List UInt8) (b:List UInt8):List UInt64×UInt64×List UInt8:=vt (s.1,s.2.1,s.2.2++b)
theorem ajD (s:List UInt64×UInt64×List UInt8):∀ k,(upto (λ_ s=>Bo s) s k).2.2.length<=s.2.2.length
 |0=>Nat.le_refl _
 |k+1=>by
  have:=ajD s k
  show (List.drop 128 (upto (λ_ s=>Bo s) s k).2.2).length<=_
  rw [List.length_drop]
  omega
theorem al6 {n:Int} {h:List UInt64} {c:UInt64} {w:List UInt8} (hh:h.length=8):wA (aFh n h c) w=(h,c,w):=by
 have: [h.getD 0 0,h.getD 1 0,h.getD 2 0,h.getD 3 0,h.getD 4 0,h.getD 5 0,h.getD 6 0,h.getD 7 0]=h:=(rfl:_=tab h 8 0).trans (iO hh)
 simp only [wA,aFh,this]
theorem aHm (s:List UInt64×UInt64×List UInt8) (hs:s.1.length=8):∀ k,(upto (λ_ s=>Bo s) s k).1.length=8
 |0=>hs
 |k+1=>sd (aHm s hs k)
theorem Tx (s:List UInt64×UInt64×List UInt8):∀ k,(upto (λ_ s=>Bo s) s k).2.2.length=s.2.2.length-128*k
 |0=>rfl
 |k+1=>by
  have:=Tx s k
  show (List.drop 128 (upto (λ_ s=>Bo s) s k).2.2).length=_
  rw [List.length_drop,this]
  omega
theorem azR (s:List UInt64×UInt64×List UInt8) (hs:s.1.length=8):(vt s).1.length=8:=aHm s hs _
theorem Qa (s:List UInt64×UInt64×List UInt8):(vt s).2.2.length<=128:=by
 unfold vt
 rw [Tx]
 omega
def Dn (x:Dp):Bool:=decide (x.2.2.1.length+x.1.2.1.length<=140737488355328)
def ajN (x:Dp):OT iH.Y:=.ok ⟨KH,((),(aFh x.2.1.1 (iN (wA x.2.1 x.2.2.1) x.1.2.1).1 (iN (wA x.2.1 x.2.2.1) x.1.2.1).2.1,((iN (wA x.2.1 x.2.2.1) x.1.2.1).2.2,())))⟩
theorem auA:aa Tryz.prog 109 (iH.aD Dn ajN):=ad7 Qm YP auB _ _ λx oy hp ho=>by
 rw [<-ho]
 clear ho
 obtain ⟨⟨⟨⟩,b,⟨⟩⟩,⟨⟨n,h0,h1,h2,h3,h4,h5,h6,h7,⟨⟩,c,⟨⟩⟩,w,⟨⟩⟩⟩:=x
 have hp':=of_decide_eq_true hp
 dsimp only at hp'
 refine (aj ?_).trans rfl
 simp only [List.all_cons,List.all_nil,Bool.and_true,Bool.and_eq_true]
 refine ⟨decide_eq_true (by omega),rfl,decide_eq_true ?_⟩
 have:=ajD ([h0,h1,h2,h3,h4,h5,h6,h7],c,w++b) (((w++b).length-1)/128)
 show (vt ([h0,h1,h2,h3,h4,h5,h6,h7],c,w++b)).2.2.length<=_
 refine Nat.le_trans this ?_
 show (w++b).length<=_
 rw [List.length_append]
 exact hp'
def wQ:bw:=(iH.aD Dn ajN)
theorem YO:aa Tryz.prog 109 wQ:=auA
theorem YN:aC wQ:=ay
def u9:Env:=aw 109 wQ QP
theorem pY:aK Tryz.prog u9:=af YO Bg
theorem A8:ar u9:=ab YN MM
theorem F4:aO Tryz.prog te u9:=aE follows al pY A8
def ss:ap:=⟨[.ptr 0 0 0],[(0,TA (.own 1)),(1,.row .u8)],false,2,true⟩
abbrev anz:Type:=((Unit)×Unit)×(((Int)×(UInt64)×(UInt64)×(UInt64)×(UInt64)×(UInt64)×(UInt64)×(UInt64)×(UInt64)×(Unit)×(UInt64)×Unit)×(List (UInt8))×Unit)
def KK:Shape:=⟨51,[(5,.ptr 2 0 0),(6,.own 3),(33,.val false .int),(34,.val false .int)],[(0,.cells [.val false .int,.val false .u64,.val false .u64,.val false .u64,.val false .u64,.val false .u64,.val false .u64,.val false .u64,.val false .u64,.own 1,.val false .u64]),(1,.row .u8),(2,.row .u64),(3,.row .u8)],2,true⟩
abbrev dG:Type:=((Unit)×(Unit)×(Int)×(Int)×Unit)×(((Int)×(UInt64)×(UInt64)×(UInt64)×(UInt64)×(UInt64)×(UInt64)×(UInt64)×(UInt64)×(Unit)×(UInt64)×Unit)×(List (UInt8))×(List (UInt64))×(List (UInt8))×Unit)
def zN:Shape:=⟨51,[(6,.own 2)],[(0,.cells [.val false .int,.val false .u64,.val false .u64,.val false .u64,.val false .u64,.val false .u64,.val false .u64,.val false .u64,.val false .u64,.own 1,.val false .u64]),(1,.row .u8),(2,.row .u8)],2,true⟩
abbrev oa:Type:=((Unit)×Unit)×(((Int)×(UInt64)×(UInt64)×(UInt64)×(UInt64)×(UInt64)×(UInt64)×(UInt64)×(UInt64)×(Unit)×(UInt64)×Unit)×(List (UInt8))×(List (UInt8))×Unit)
def auE:SE->Option Shape:=gI [(0,zN)] none
def aFu (a33:Int) (a34:Int) (c0_0:Int) (c0_1:UInt64) (c0_2:UInt64) (c0_3:UInt64) (c0_4:UInt64) (c0_5:UInt64) (c0_6:UInt64) (c0_7:UInt64) (c0_8:UInt64) (c0_10:UInt64) (c1:List (UInt8)) (c2:List (UInt64)) (c3:List (UInt8)):OT (Sum dG aI):=
 let z0:Int:=Int.tdiv a34 (8:Int)
 let z1:Int:=(8:Int)*Int.tmod a34 (8:Int)
 let z2:Nat:=List.length c3
 let z3:Nat:=Int.toNat a34
 (.br (decide (a34<a33))
 (gd [true&&inR z0,inB z0 8,decide (Int.toNat z0+0<List.length c2),inR z1,decide ((0:Int)<=z1),inB a34 z2,decide (z3<z2),inR (a34+(1:Int))] (.ok (.inl (((),((),(a33,(a34+(1:Int),())))),((c0_0,(c0_1,(c0_2,(c0_3,(c0_4,(c0_5,(c0_6,(c0_7,(c0_8,((),(c0_10,()))))))))))),(c1,(c2,(List.set c3 z3 (UInt64.toUInt8 (aZ (List.getD c2 (Int.toNat z0+0) (0:UInt64)) z1)),()))))))))
 (.ok (.inr ⟨(.exit 0,zN),(((),()),((c0_0,(c0_1,(c0_2,(c0_3,(c0_4,(c0_5,(c0_6,(c0_7,(c0_8,((),(c0_10,()))))))))))),(c1,(c3,()))))⟩)))
def KL (s:dG):OT (Sum dG aI):=aFu (s.1.2.2.1) (s.1.2.2.2.1) (s.2.1.1) (s.2.1.2.1) (s.2.1.2.2.1) (s.2.1.2.2.2.1) (s.2.1.2.2.2.2.1) (s.2.1.2.2.2.2.2.1) (s.2.1.2.2.2.2.2.2.1) (s.2.1.2.2.2.2.2.2.2.1) (s.2.1.2.2.2.2.2.2.2.2.1) (s.2.1.2.2.2.2.2.2.2.2.2.2.1) (s.2.2.1) (s.2.2.2.1) (s.2.2.2.2.1)
theorem aFr (s:dG) (Q:Sum dG aI->Prop):wps te u9 ax 1000 (bg (ak Tryz.f110) 0) (KK.inj s) (cz KK auE (Q:Sum KK.T aI->Prop))=(KL s).wpR Q:=by kernel_rfl
def TW (g0_0:dG->oa) (s:dG):OT aI:=(.ok ⟨(.exit 0,zN),g0_0 s⟩)
def aee:av:=⟨[.own 2],[(0,.cells [.val false .int,.val false .u64,.val false .u64,.val false .u64,.val false .u64,.val false .u64,.val false .u64,.val false .u64,.val false .u64,.own 1,.val false .u64]),(1,.row .u8),(2,.row .u8)],false⟩
def ajQ:SV->Option av:=λ_=>some aee
def auG (ok0:dG->Bool) (g0_0:dG->oa) (c0_0:Int) (c0_1:UInt64) (c0_2:UInt64) (c0_3:UInt64) (c0_4:UInt64) (c0_5:UInt64) (c0_6:UInt64) (c0_7:UInt64) (c0_8:UInt64) (c0_10:UInt64) (c1:List (UInt8)):OT ss.Y:=
 let z0:Nat:=List.length c1
 let z1:List UInt8:=List.take 128 c1++List.drop z0 (List.replicate 128 (0:UInt8))
 let z2:List UInt8:=List.replicate (Int.toNat c0_0) (0:UInt8)
 let z3:List UInt64:=vg [c0_1,c0_2,c0_3,c0_4,c0_5,c0_6,c0_7,c0_8] (tab z1 128 (0:UInt8)) (c0_10+i2u (↑(min z0 128):Int)) true
 let z4:(PUnit×PUnit×Int×Int×PUnit)×(Int×UInt64×UInt64×UInt64×UInt64×UInt64×UInt64×UInt64×UInt64×PUnit×UInt64×PUnit)×List UInt8×List UInt64×List UInt8×PUnit:=(((),(),(↑(List.length z2):Int),(0:Int),()),(c0_0,c0_1,c0_2,c0_3,c0_4,c0_5,c0_6,c0_7,c0_8,(),c0_10,()),c1,[List.getD z3 0 0,List.getD z3 1 0,List.getD z3 2 0,List.getD z3 3 0,List.getD z3 4 0,List.getD z3 5 0,List.getD z3 6 0,List.getD z3 7 0],z2,())
 let z5:=(g0_0 z4).snd
 let z6:=z5.fst
 let z7:=z6.snd
 let z8:=z7.snd
 let z9:=z8.snd
 let z10:=z9.snd
 let z11:=z10.snd
 let z12:=z11.snd
 let z13:=z12.snd
 let z14:=z13.snd
 let z15:=z5.snd
 (gd [decide (128<=List.length z1),decide ((0:Int)<=c0_0)&&decide (c0_0<=c0_0)&&decide (c0_0*(1:Int)<=(140737488355328:Int))&&decide (c0_0<=(140737488355328:Int)),ok0 z4] (.ok ⟨aee,(((),()),((z6.fst,(z7.fst,(z8.fst,(z9.fst,(z10.fst,(z11.fst,(z12.fst,(z13.fst,(z14.fst,((),(z14.snd.snd.fst,()))))))))))),(z15.fst,(z15.snd.fst,()))))⟩))
theorem aHu (ok0:dG->Bool) (g0_0:dG->oa) (x:anz) (Q:ss.Y->Prop):wpf te u9 (be 0 (cE KK 0 ok0 (TW g0_0)) ax) 1000 Tryz.f110 (ss.inp.inj x).tm (ss.inp.inj x).hp (fnK ss ajQ Q) (λ_ _=>False)=(auG ok0 g0_0 (x.2.1.1) (x.2.1.2.1) (x.2.1.2.2.1) (x.2.1.2.2.2.1) (x.2.1.2.2.2.2.1) (x.2.1.2.2.2.2.2.1) (x.2.1.2.2.2.2.2.2.1) (x.2.1.2.2.2.2.2.2.2.1) (x.2.1.2.2.2.2.2.2.2.2.1) (x.2.1.2.2.2.2.2.2.2.2.2.2.1) (x.2.2.1)).wpR Q:=by kernel_rfl
theorem auF (ok0:dG->Bool) (g0_0:dG->oa) (h0:∀ s:dG,ok0 s=true->∃ m e,aA (KL) m s=some e/\(TW g0_0 s).run=some e) (pre:anz->Bool) (F:anz->OT ss.Y) (hF:∀ (x:anz) oy,pre x=true->(F x).run=some oy->(auG ok0 g0_0 (x.2.1.1) (x.2.1.2.1) (x.2.1.2.2.1) (x.2.1.2.2.2.1) (x.2.1.2.2.2.2.1) (x.2.1.2.2.2.2.2.1) (x.2.1.2.2.2.2.2.2.1) (x.2.1.2.2.2.2.2.2.2.1) (x.2.1.2.2.2.2.2.2.2.2.1) (x.2.1.2.2.2.2.2.2.2.2.2.2.1) (x.2.2.1)).run=some oy):aa Tryz.prog 110 (ss.aD pre F):=
 aB al pY F4 (f:=110) (fn:=Tryz.f110) (c:=ak Tryz.f110) (by kernel_rfl) (by kernel_rfl) (by kernel_rfl) (S:=ss) (k:=2) (by kernel_rfl) (λR hR=>(aG (c:=(ak Tryz.f110)) (by kernel_rfl) (id:=0) (by kernel_rfl) (ba al pY F4 (sh:=KK) hR (xs:=auE) (aF (by kernel_rfl) (by kernel_rfl) hR) aN ae (n:=1000) (T:=KL) (λs Q=>aFr s Q) (ok:=ok0) (f:=TW g0_0) h0) ae)) (n:=1000) (sel:=ajQ) (λv o h=>by cases h;rfl) (pre:=pre) (F:=F) (T:=λx=>auG ok0 g0_0 (x.2.1.1) (x.2.1.2.1) (x.2.1.2.2.1) (x.2.1.2.2.2.1) (x.2.1.2.2.2.2.1) (x.2.1.2.2.2.2.2.1) (x.2.1.2.2.2.2.2.2.1) (x.2.1.2.2.2.2.2.2.2.1) (x.2.1.2.2.2.2.2.2.2.2.1) (x.2.1.2.2.2.2.2.2.2.2.2.2.1) (x.2.2.1)) (λx Q=>aHu ok0 g0_0 x Q) hF
def Gu (h:List UInt64) (n:Nat):List UInt8:=upto (λk o=>o.set k (UInt64.toUInt8 (aZ (h.getD (k/8) 0) (8*((k%8:Nat):Int))))) (List.replicate n 0) n
def TV (s:dG):Bool:=decide (s.1.2.2.2.1=0/\s.2.2.2.1.length=8/\s.1.2.2.1<=64/\0<=s.1.2.2.1/\s.2.2.2.2.1=List.replicate s.1.2.2.1.toNat 0)
def aef (s:dG):oa:=(((),()),(s.2.1,s.2.2.1,Gu s.2.2.2.1 s.1.2.2.1.toNat,()))
theorem aFt:∀ s:dG,TV s=true->∃ m e,aA KL m s=some e/\(TW aef s).run=some e:=by
 rintro ⟨⟨⟨⟩,⟨⟩,n,i,⟨⟩⟩,⟨d,w,h,o,⟨⟩⟩⟩ hh
 have h':=of_decide_eq_true hh
 dsimp only at h'
 obtain ⟨rfl,hl,hn,hn0,rfl⟩:=h'
 obtain ⟨k,rfl⟩:∃ k:Nat,n=(k:Int):=⟨n.toNat,by omega⟩
 have:=(aR (T:=KL) (λi o=>((((),(),(k:Int),(i:Int),()),(d,w,h,o,())):dG)) (λk o=>o.set k (UInt64.toUInt8 (aZ (h.getD (k/8) 0) (8*((k%8:Nat):Int)))))
  (λo=>(⟨(.exit 0,zN),(((),()),(d,w,o,()))⟩:aI)) k (List.replicate k 0) (λ_ o=>o.length=k) (by simp) (λi o hi ho=>⟨?_,by rw [List.length_set];exact ho⟩) (λo ho=> ?_)).1
 ·obtain ⟨m,hm⟩:=this
  exact ⟨m,_,hm,rfl⟩
 ·have t1:Int.tdiv (i:Int) 8=((i/8:Nat):Int):=by rw [Int.tdiv_eq_ediv_of_nonneg (by omega)];omega
  have t2:Int.tmod (i:Int) 8=((i%8:Nat):Int):=by rw [Int.tmod_eq_emod_of_nonneg (by omega)];omega
  refine (OT.az (decide_eq_true (by dsimp only;omega))).trans ((aj ?_).trans ?_)
  ·simp only [t1,t2,hl,ho,Int.toNat_natCast,List.all_cons,List.all_nil,Bool.and_true,Bool.and_eq_true]
   exact ⟨⟨trivial,aL (by omega)⟩,aM (by omega),decide_eq_true (by omega),aL (by omega),decide_eq_true (by omega),aM (by omega),decide_eq_true (by omega),aL (by omega)⟩
  ·simp only [OT.cI,t1,t2,Int.toNat_natCast,Nat.add_zero]
   rfl
 ·exact OT.aq (decide_eq_false (by dsimp only;omega))
def mr (w:List UInt8):List UInt8:=w.take 128++(List.replicate 128 (0:UInt8)).drop w.length
theorem y9 {w:List UInt8} (h:w.length<=128):(mr w).length=128:=by
 simp only [mr,List.length_append,List.length_take,List.length_drop,List.length_replicate]
 omega
def avt (n:Int) (s:List UInt64×UInt64×List UInt8):List UInt8:=Gu (vg s.1 (mr s.2.2) (s.2.1+i2u (s.2.2.length:Int)) true) n.toNat
theorem aed {n:Int} {d:UI} {w:List UInt8} {h:List UInt64} (hh:h.length=8) (hn0:0<=n) (hn:n<=64):TV (((),(),n,0,()),(d,w,h,List.replicate n.toNat 0,()))=true:=decide_eq_true ⟨rfl,hh,hn,hn0,rfl⟩
def T5 (p:List UInt8) (n:Int) (b:List UInt8):List UInt8:=avt n (iN (aFK p n,0,[]) b)
def TU (x:anz):Bool:=decide (0<=x.2.1.1/\x.2.1.1<=64/\x.2.2.1.length<=128)
def aBr (x:anz):OT ss.Y:=.ok ⟨aee,(((),()),(x.2.1,(x.2.2.1,(avt x.2.1.1 (wA x.2.1 x.2.2.1),()))))⟩
theorem aFs:aa Tryz.prog 110 (ss.aD TU aBr):=auF TV aef aFt _ _ λx oy hp ho=>by
 rw [<-ho]
 clear ho
 obtain ⟨⟨⟨⟩,⟨⟩⟩,⟨⟨n,h0,h1,h2,h3,h4,h5,h6,h7,⟨⟩,c,⟨⟩⟩,w,⟨⟩⟩⟩:=x
 have hp':=of_decide_eq_true hp
 dsimp only at hp'
 obtain ⟨hn0,hn,hw⟩:=hp'
 have t1:w.take 128++List.drop w.length (List.replicate 128 (0:UInt8))=mr w:=rfl
 have t2:tab (mr w) 128 0=mr w:=iO (y9 hw)
 have t3:min w.length 128=w.length:=by omega
 have hc:∀ c,(vg [h0,h1,h2,h3,h4,h5,h6,h7] (mr w) c true).length=8:=λc=>sd rfl
 have t4:∀ c,tab (vg [h0,h1,h2,h3,h4,h5,h6,h7] (mr w) c true) 8 0=vg [h0,h1,h2,h3,h4,h5,h6,h7] (mr w) c true:=λc=>iO (hc c)
 have t5:((List.replicate n.toNat (0:UInt8)).length:Int)=n:=by simp;omega
 refine (aj ?_).trans ?_
 ·simp only [t1,t2,t3,t4,t5,y9 hw,List.all_cons,List.all_nil,Bool.and_true,Bool.and_eq_true]
  exact ⟨rfl,⟨⟨⟨decide_eq_true hn0,decide_eq_true (Int.le_refl _)⟩,decide_eq_true (by omega)⟩,decide_eq_true (by omega)⟩,aed (hc _) hn0 hn⟩
 ·simp only [t1,t2,t3,t4,t5,aef]
  rfl
def KJ:bw:=(ss.aD TU aBr)
theorem anx:aa Tryz.prog 110 KJ:=aFs
theorem anw:aC KJ:=ay
def avr:Env:=aw 110 KJ u9
theorem avq:aK Tryz.prog avr:=af anx pY
theorem aff:ar avr:=ab anw A8
end Go.Proofs.YtohjofabochgfaaGreat

namespace Go.Proofs.YtohjofabochgfaaGreat
open Sx Go
def Sx.ag.nat (e:ag):Nat:=e.w0.toNat+18446744073709551616*(e.w1.toNat+18446744073709551616*(e.w2.toNat+18446744073709551616*e.w3.toNat))
def ofN (n:Nat):ag:=⟨UInt64.ofNat n,UInt64.ofNat (n/18446744073709551616),UInt64.ofNat (n/18446744073709551616/18446744073709551616),UInt64.ofNat (n/18446744073709551616/18446744073709551616/18446744073709551616)⟩
def vi (x y c:UInt64):UInt64:=UInt64.ofNat ((x.toNat+y.toNat+c.toNat)%18446744073709551616)
def xB (x y c:UInt64):UInt64:=UInt64.ofNat ((x.toNat+y.toNat+c.toNat)/18446744073709551616)
def oO (x y c:UInt64):UInt64:=UInt64.ofNat ((x.toNat+18446744073709551616-y.toNat-c.toNat)%18446744073709551616)
def UJ (x y c:UInt64):UInt64:=UInt64.ofNat (if x.toNat<y.toNat+c.toNat then 1 else 0)
def avu (x y:UInt64):UInt64:=UInt64.ofNat (x.toNat*y.toNat/18446744073709551616)
theorem fm (x:UInt64) (k:Nat) (hk:k<64):(aZ x (k:Int)).toNat=x.toNat/2^k:=by
 unfold aZ
 rw [if_pos (by omega),UInt64.toNat_shiftRight,UInt64.toNat_ofNat',Int.toNat_natCast,Nat.shiftRight_eq_div_pow]
 congr 2
 omega
theorem kS (x:UInt64) (k:Nat) (hk:k<64):(bH x (k:Int)).toNat=x.toNat*2^k%2^64:=by
 unfold bH
 rw [if_pos (by omega),UInt64.toNat_shiftLeft,UInt64.toNat_ofNat',Int.toNat_natCast,Nat.shiftLeft_eq]
 congr 3
 omega
theorem ji (x:UInt64):(x&&&4294967295).toNat=x.toNat%4294967296:=by
 rw [UInt64.toNat_and]
 exact Nat.and_two_pow_sub_one_eq_mod x.toNat 32
theorem aGU (a b:UInt64):aZ a 32*aZ b 32+aZ (aZ a 32*(b&&&4294967295)+aZ ((a&&&4294967295)*(b&&&4294967295)) 32) 32+
 aZ (((aZ a 32*(b&&&4294967295)+aZ ((a&&&4294967295)*(b&&&4294967295)) 32)&&&4294967295)+(a&&&4294967295)*aZ b 32) 32=avu a b:=by
 have ha:=a.toNat_lt
 have hb:=b.toNat_lt
 obtain ⟨h1,h2,h3,h4⟩:=Lib.mul64_hi a.toNat b.toNat ha hb
 have s32:∀ x:UInt64,(aZ x 32).toNat=x.toNat/4294967296:=λx=>fm x 32 (by omega)
 have hx:=Lib.half_mul_le (a:=a.toNat/4294967296) (b:=b.toNat/4294967296) (by omega) (by omega)
 have hy:=Lib.half_mul_le (a:=a.toNat/4294967296) (b:=b.toNat%4294967296) (by omega) (by omega)
 have hz:=Lib.half_mul_le (a:=a.toNat%4294967296) (b:=b.toNat/4294967296) (by omega) (by omega)
 have e0:((a&&&4294967295)*(b&&&4294967295)).toNat=a.toNat%4294967296*(b.toNat%4294967296):=by
  rw [UInt64.toNat_mul,ji,ji,Nat.mod_eq_of_lt h1]
 have e1:(aZ a 32*(b&&&4294967295)+aZ ((a&&&4294967295)*(b&&&4294967295)) 32).toNat=a.toNat/4294967296*(b.toNat%4294967296)+a.toNat%4294967296*(b.toNat%4294967296)/4294967296:=by
  rw [UInt64.toNat_add,UInt64.toNat_mul,s32,s32,ji,e0,Nat.mod_eq_of_lt (a:=a.toNat/4294967296*(b.toNat%4294967296)) (by omega),Nat.mod_eq_of_lt h2]
 have e2:(((aZ a 32*(b&&&4294967295)+aZ ((a&&&4294967295)*(b&&&4294967295)) 32)&&&4294967295)+(a&&&4294967295)*aZ b 32).toNat=
  (a.toNat/4294967296*(b.toNat%4294967296)+a.toNat%4294967296*(b.toNat%4294967296)/4294967296)%4294967296+a.toNat%4294967296*(b.toNat/4294967296):=by
  rw [UInt64.toNat_add,UInt64.toNat_mul,ji,ji,s32,e1,Nat.mod_eq_of_lt (a:=a.toNat%4294967296*(b.toNat/4294967296)) (by omega),Nat.mod_eq_of_lt h3]
 have hq:a.toNat*b.toNat/18446744073709551616<18446744073709551616:=by
  rw [Nat.div_lt_iff_lt_mul (by omega)]
  exact Nat.mul_lt_mul'' ha hb
 rw [<-UInt64.toNat_inj,UInt64.toNat_add,UInt64.toNat_add,UInt64.toNat_mul,s32,s32,s32,s32,e1,e2]
 have e3:(avu a b).toNat=a.toNat*b.toNat/18446744073709551616:=by
  unfold avu
  rw [UInt64.toNat_ofNat',Nat.mod_eq_of_lt hq]
 rw [e3,<-h4]
 rw [<-h4] at hq
 omega
def aFS (h l y:UInt64):UInt64:=UInt64.ofNat ((h.toNat*18446744073709551616+l.toNat)/y.toNat)
def YA (h l y:UInt64):UInt64:=UInt64.ofNat ((h.toNat*18446744073709551616+l.toNat)%y.toNat)
theorem azT {m A B N:Nat} (hm:0<m) (e:N=A+m*B):N/m=B+A/m/\N%m=A%m:=by
 subst e
 exact ⟨by rw [Nat.add_mul_div_left _ _ hm,Nat.add_comm],Nat.add_mul_mod_self_left ..⟩
theorem Tz {m N u t q r K L:Nat} (hm:0<m) (hL:0<L) (hu:N=u*K+t) (hq:u=q*(m*L)+r):
 N/m=q*(L*K)+((r*K+t)*L)/(m*L)/\N%m=((r*K+t)*L)%(m*L)/L:=by
 have e:N=(r*K+t)+m*(q*(L*K)):=by
  have h1:q*(m*L)*K=m*(q*(L*K)):=by
   rw [Nat.mul_assoc q,Nat.mul_assoc m,Nat.mul_left_comm m q]
  rw [hu,hq,Nat.add_mul,h1]
  omega
 obtain ⟨h1,h2⟩:=azT hm e
 rw [h1,h2,Nat.mul_div_mul_right _ _ hL,Nat.mul_mod_mul_right,Nat.mul_div_cancel _ hL]
 exact ⟨rfl,rfl⟩
theorem lQ (x y c:UInt64):x.toNat+y.toNat+c.toNat=(vi x y c).toNat+18446744073709551616*(xB x y c).toNat:=by
 have hx:=x.toNat_lt
 have hy:=y.toNat_lt
 have hc:=c.toNat_lt
 unfold vi xB
 rw [UInt64.toNat_ofNat',UInt64.toNat_ofNat',Nat.mod_eq_of_lt (b:=2^64) (by omega),Nat.mod_eq_of_lt (b:=2^64) (by omega)]
 omega
theorem DE {x y c:UInt64} (hc:c.toNat<=1):(xB x y c).toNat<=1:=by
 have hx:=x.toNat_lt
 have hy:=y.toNat_lt
 unfold xB
 rw [UInt64.toNat_ofNat',Nat.mod_eq_of_lt (by omega)]
 omega
theorem yi (x y c:UInt64):(UJ x y c).toNat=if x.toNat<y.toNat+c.toNat then 1 else 0:=by
 unfold UJ
 rw [UInt64.toNat_ofNat']
 split<;>rfl
theorem vW {x y c:UInt64}:(UJ x y c).toNat<=1:=by
 rw [yi]
 split<;>omega
theorem yj {x y c:UInt64} (hc:c.toNat<=1):x.toNat+18446744073709551616*(UJ x y c).toNat=(oO x y c).toNat+y.toNat+c.toNat:=by
 have hx:=x.toNat_lt
 have hy:=y.toNat_lt
 rw [yi]
 unfold oO
 rw [UInt64.toNat_ofNat',Nat.mod_eq_of_lt (b:=2^64) (by omega)]
 split<;>omega
theorem iQ (e:ag):e.nat<115792089237316195423570985008687907853269984665640564039457584007913129639936:=by
 have h0:=e.w0.toNat_lt
 have h1:=e.w1.toNat_lt
 have h2:=e.w2.toNat_lt
 have h3:=e.w3.toNat_lt
 unfold Sx.ag.nat
 omega
theorem Bt {a b X Y:Nat} (ha:a<18446744073709551616) (hb:b<18446744073709551616) (h:a+18446744073709551616*X=b+18446744073709551616*Y):a=b/\X=Y:=by
 omega
theorem ph {e f:ag} (h:e.nat=f.nat):e=f:=by
 unfold Sx.ag.nat at h
 obtain ⟨h0,h⟩:=Bt e.w0.toNat_lt f.w0.toNat_lt h
 obtain ⟨h1,h⟩:=Bt e.w1.toNat_lt f.w1.toNat_lt h
 obtain ⟨h2,h3⟩:=Bt e.w2.toNat_lt f.w2.toNat_lt h
 obtain ⟨a,b,c,d⟩:=e
 obtain ⟨a',b',c',d'⟩:=f
 simp only at h0 h1 h2 h3
 rw [UInt64.toNat_inj.1 h0,UInt64.toNat_inj.1 h1,UInt64.toNat_inj.1 h2,UInt64.toNat_inj.1 h3]
theorem div_eq {n a b:Nat} (ha:a<18446744073709551616) (h:n=a+18446744073709551616*b):n/18446744073709551616=b/\n%18446744073709551616=a:=by
 omega
theorem asx {n:Nat} {a b c d:UInt64} {k:Nat} (h:n=a.toNat+18446744073709551616*(b.toNat+18446744073709551616*(c.toNat+18446744073709551616*(d.toNat+18446744073709551616*k)))):ofN n=⟨a,b,c,d⟩:=by
 obtain ⟨h1,h0⟩:=div_eq a.toNat_lt h
 obtain ⟨h2,h3⟩:=div_eq b.toNat_lt h1
 obtain ⟨h4,h5⟩:=div_eq c.toNat_lt h2
 have h6:n/18446744073709551616/18446744073709551616/18446744073709551616%18446744073709551616=d.toNat:=by
  rw [h4]
  have:=d.toNat_lt
  omega
 unfold ofN
 have e:∀ (m:Nat) (x:UInt64),m%18446744073709551616=x.toNat->UInt64.ofNat m=x:=λm x hm=>by
  rw [<-UInt64.toNat_inj,UInt64.toNat_ofNat']
  exact hm
 rw [e _ a h0,e _ b h3,e _ c h5,e _ d h6]
theorem Sz (n:Nat):(ofN n).nat=n%115792089237316195423570985008687907853269984665640564039457584007913129639936:=by
 unfold ofN ag.nat
 simp only [UInt64.toNat_ofNat']
 rw [show (2:Nat)^64=18446744073709551616 from rfl]
 omega
theorem jR {n:Nat} (h:n<115792089237316195423570985008687907853269984665640564039457584007913129639936):(ofN n).nat=n:=by
 rw [Sz]
 exact Nat.mod_eq_of_lt h
theorem tX (e:ag):ofN e.nat=e:=ph (jR (iQ e))
def oE (a b:ag):ag×Bool:=(ofN (a.nat+b.nat),Nat.ble 115792089237316195423570985008687907853269984665640564039457584007913129639936 (a.nat+b.nat))
def ef (a b:ag):ag×Bool:=(ofN (a.nat+115792089237316195423570985008687907853269984665640564039457584007913129639936-b.nat),Nat.blt a.nat b.nat)
theorem Uf {x y c s k X Y R:Nat} (h1:x+y+c=s+18446744073709551616*k) (h2:X+Y+k=R):(x+18446744073709551616*X)+(y+18446744073709551616*Y)+c=s+18446744073709551616*R:=by
 omega
theorem Rp {x y c s k X Y R Q:Nat} (h1:x+18446744073709551616*k=s+y+c) (h2:X+18446744073709551616*Q=R+Y+k):(x+18446744073709551616*X)+18446744073709551616*(18446744073709551616*Q)=s+18446744073709551616*R+(y+18446744073709551616*Y)+c:=by
 omega
theorem NC (a b:ag):let k0:=xB a.w0 b.w0 0;let k1:=xB a.w1 b.w1 k0;let k2:=xB a.w2 b.w2 k1;let k3:=xB a.w3 b.w3 k2
 (k0.toNat<=1/\k1.toNat<=1/\k2.toNat<=1)/\oE a b=(⟨vi a.w0 b.w0 0,vi a.w1 b.w1 k0,vi a.w2 b.w2 k1,vi a.w3 b.w3 k2⟩,!(k3==0)):=by
 intro k0 k1 k2 k3
 have l0:k0.toNat<=1:=DE (by decide)
 have l1:k1.toNat<=1:=DE l0
 have l2:k2.toNat<=1:=DE l1
 have l3:k3.toNat<=1:=DE l2
 refine ⟨⟨l0,l1,l2⟩,?_⟩
 have h:=Uf (lQ a.w0 b.w0 0) (Uf (lQ a.w1 b.w1 k0) (Uf (lQ a.w2 b.w2 k1) (lQ a.w3 b.w3 k2)))
 rw [show (0:UInt64).toNat=0 from rfl,Nat.add_zero] at h
 unfold oE
 have hn:a.nat+b.nat=(vi a.w0 b.w0 0).toNat+18446744073709551616*((vi a.w1 b.w1 k0).toNat+18446744073709551616*((vi a.w2 b.w2 k1).toNat+18446744073709551616*((vi a.w3 b.w3 k2).toNat+18446744073709551616*k3.toNat))):=h
 rw [asx hn]
 congr 1
 have hs:=iQ ⟨vi a.w0 b.w0 0,vi a.w1 b.w1 k0,vi a.w2 b.w2 k1,vi a.w3 b.w3 k2⟩
 unfold Sx.ag.nat at hs
 simp only at hs
 have hk:k3.toNat=0\/k3.toNat=1:=by omega
 rcases hk with hk|hk
 ·have e:k3=0:=UInt64.toNat_inj.1 hk
  rw [hk] at hn
  rw [e]
  cases hb:Nat.ble 115792089237316195423570985008687907853269984665640564039457584007913129639936 (a.nat+b.nat)
  ·rfl
  ·have:=Nat.le_of_ble_eq_true hb
   omega
 ·have e:(k3==0)=false:=by
   have:¬k3=0:=λe=>by rw [e] at hk;cases hk
   simpa using this
  rw [hk] at hn
  rw [e]
  exact Nat.ble_eq_true_of_le (by omega)
theorem Bv (a b:ag):let k0:=UJ a.w0 b.w0 0;let k1:=UJ a.w1 b.w1 k0;let k2:=UJ a.w2 b.w2 k1;let k3:=UJ a.w3 b.w3 k2
 (k0.toNat<=1/\k1.toNat<=1/\k2.toNat<=1)/\ef a b=(⟨oO a.w0 b.w0 0,oO a.w1 b.w1 k0,oO a.w2 b.w2 k1,oO a.w3 b.w3 k2⟩,!(k3==0)):=by
 intro k0 k1 k2 k3
 have l0:k0.toNat<=1:=vW
 have l1:k1.toNat<=1:=vW
 have l2:k2.toNat<=1:=vW
 have l3:k3.toNat<=1:=vW
 refine ⟨⟨l0,l1,l2⟩,?_⟩
 have h:=Rp (yj (x:=a.w0) (y:=b.w0) (c:=0) (by decide)) (Rp (yj (x:=a.w1) (y:=b.w1) l0) (Rp (yj (x:=a.w2) (y:=b.w2) l1) (yj (x:=a.w3) (y:=b.w3) l2)))
 rw [show (0:UInt64).toNat=0 from rfl,Nat.add_zero] at h
 unfold ef
 have hs:=iQ ⟨oO a.w0 b.w0 0,oO a.w1 b.w1 k0,oO a.w2 b.w2 k1,oO a.w3 b.w3 k2⟩
 have h':a.nat+18446744073709551616*(18446744073709551616*(18446744073709551616*(18446744073709551616*k3.toNat)))=ag.nat ⟨oO a.w0 b.w0 0,oO a.w1 b.w1 k0,oO a.w2 b.w2 k1,oO a.w3 b.w3 k2⟩+b.nat:=h
 have ha:=iQ a
 have hb:=iQ b
 have hS:=iQ ⟨oO a.w0 b.w0 0,oO a.w1 b.w1 k0,oO a.w2 b.w2 k1,oO a.w3 b.w3 k2⟩
 have e1:ofN (a.nat+115792089237316195423570985008687907853269984665640564039457584007913129639936-b.nat)=⟨oO a.w0 b.w0 0,oO a.w1 b.w1 k0,oO a.w2 b.w2 k1,oO a.w3 b.w3 k2⟩:=by
  apply ph
  rw [Sz]
  generalize ag.nat ⟨oO a.w0 b.w0 0,oO a.w1 b.w1 k0,oO a.w2 b.w2 k1,oO a.w3 b.w3 k2⟩=S at*
  omega
 rw [e1]
 congr 1
 generalize ag.nat ⟨oO a.w0 b.w0 0,oO a.w1 b.w1 k0,oO a.w2 b.w2 k1,oO a.w3 b.w3 k2⟩=S at*
 have hk:k3.toNat=0\/k3.toNat=1:=by omega
 rcases hk with hk|hk
 ·have e:k3=0:=UInt64.toNat_inj.1 hk
  rw [hk] at h'
  rw [e]
  cases hq:Nat.blt a.nat b.nat
  ·rfl
  ·have:=dW hq
   omega
 ·have e:(k3==0)=false:=by
   have:¬k3=0:=λe=>by rw [e] at hk;cases hk
   simpa using this
  rw [hk] at h'
  rw [e]
  exact Nat.ble_eq_true_of_le (show a.nat+1<=b.nat by omega)
def lst (e:ag):List UInt64:= [e.w0,e.w1,e.w2,e.w3]
def elemOf (l:List UInt64):ag:=⟨l.getD 0 0,l.getD 1 0,l.getD 2 0,l.getD 3 0⟩
theorem aP {l:List UInt64} (h:l.length=4):lst (elemOf l)=l:=by
 match l,h with
 | [a,b,c,d],_=>rfl
theorem ani (e:ag):elemOf (lst e)=e:=rfl
theorem cr (e:ag):(lst e).length=4:=rfl
theorem pB {h l y:UInt64} (hy:0<y.toNat):(YA h l y).toNat=(h.toNat*18446744073709551616+l.toNat)%y.toNat:=by
 unfold YA
 rw [UInt64.toNat_ofNat']
 exact Nat.mod_eq_of_lt (Nat.lt_trans (Nat.mod_lt _ hy) y.toNat_lt)
theorem SI (r x m:Nat):(r%m*18446744073709551616+x)%m=(r*18446744073709551616+x)%m:=by
 rw [Nat.add_mod,Nat.mul_mod,Nat.mod_mod,<-Nat.mul_mod,<-Nat.add_mod]
theorem afq (a b:ag):(ef a b).2=Nat.blt a.nat b.nat:=rfl
theorem l9 {a b:ag} (h:b.nat<=a.nat):(ef a b).1.nat=a.nat-b.nat:=by
 have ha:=iQ a
 show (ofN _).nat=_
 rw [Sz]
 omega
theorem aeq {w N r:Nat} (hr:r<64):(w+18446744073709551616*N)/2^r%2=w/2^r%2:=by
 have e:18446744073709551616*N=2^r*(2*(2^(63-r)*N)):=by
  rw [<-Nat.mul_assoc,<-Nat.mul_assoc,Nat.mul_comm (2^r) 2,Nat.mul_assoc 2,<-Nat.pow_add,show r+(63-r)=63 by omega]
 rw [e,Nat.add_mul_div_left _ _ (Nat.two_pow_pos r),Nat.add_mul_mod_self_left]
theorem Bs {w N:Nat} (hw:w<18446744073709551616) (r:Nat):(w+18446744073709551616*N)/2^(64+r)=N/2^r:=by
 rw [Nat.pow_add,<-Nat.div_div_eq_div_mul,show 2^64=18446744073709551616 from rfl,show (w+18446744073709551616*N)/18446744073709551616=N by omega]
theorem uz {a:ag} {q r:Nat} (hq:q<4) (hr:r<64):((lst a).getD q 0).toNat/2^r%2=a.nat/2^(64*q+r)%2:=by
 have h0:=a.w0.toNat_lt
 have h1:=a.w1.toNat_lt
 have h2:=a.w2.toNat_lt
 unfold Sx.ag.nat
 have hq':q=0\/q=1\/q=2\/q=3:=by omega
 rcases hq' with rfl|rfl|rfl|rfl
 ·rw [Nat.mul_zero,Nat.zero_add,aeq hr];rfl
 ·rw [show 64*1+r=64+r by omega,Bs h0,aeq hr];rfl
 ·rw [show 64*2+r=64+(64+r) by omega,Bs h0,Bs h1,aeq hr];rfl
 ·rw [show 64*3+r=64+(64+(64+r)) by omega,Bs h0,Bs h1,Bs h2];rfl
def anM (n i:Nat):Bool:=Nat.beq (n/2^i%2) 1
theorem aep (x:UInt64):(x&&&1==1)=Nat.beq (x.toNat%2) 1:=by
 have e:(x&&&1).toNat=x.toNat%2:=by
  rw [UInt64.toNat_and]
  exact Nat.and_two_pow_sub_one_eq_mod x.toNat 1
 rw [<-e]
 by_cases h:x&&&1=1
 ·rw [h];rfl
 ·have h':¬(x&&&1).toNat=1:=λh'=>h (UInt64.toNat_inj.1 h')
  have h2:Nat.beq (x&&&1).toNat 1=false:=by
   cases hb:Nat.beq (x&&&1).toNat 1
   ·rfl
   ·exact absurd (Nat.eq_of_beq_eq_true hb) h'
  rw [h2]
  simpa using h
theorem ayZ (x:ag):(x.w0&&&1==1)=(x.w0%2==1):=by
 have h:=aep x.w0
 rw [h]
 have h2:(x.w0%2).toNat=x.w0.toNat%2:=by rw [UInt64.toNat_mod];rfl
 rw [<-h2]
 by_cases h:x.w0%2=1
 ·rw [h];rfl
 ·have hn:¬(x.w0%2).toNat=1:=λe=>h (UInt64.toNat_inj.1 e)
  have:Nat.beq (x.w0%2).toNat 1=false:=by
   cases hb:Nat.beq (x.w0%2).toNat 1
   ·rfl
   ·exact absurd (Nat.eq_of_beq_eq_true hb) hn
  rw [this]
  symm
  simpa using h
end Go.Proofs.YtohjofabochgfaaGreat

namespace Go.Proofs.YtohjofabochgfaaGreat
open Sx Go
set_option maxRecDepth 100000
def Ud:ap:=⟨[.val false .u64,.val false .u64,.val false .u64],[],true,0,false⟩
abbrev avb:Type:=((UInt64)×(UInt64)×(UInt64)×Unit)×(Unit)
def ava:av:=⟨[.val false .u64,.val false .u64],[],false⟩
def DC (x:avb):Bool:=decide (x.1.2.2.1.toNat<=1)
def aka (x:avb):OT Ud.Y:=.ok ⟨ava,((vi x.1.1 x.1.2.1 x.1.2.2.1,xB x.1.1 x.1.2.1 x.1.2.2.1,()),())⟩
theorem anO (a b c:UInt64) (hc:c.toNat<=1) (w:World):(callFunc 151 #[gH a,gH b,gH c]).run Tryz.prog w=.ok (.value (.tuple #[gH (vi a b c),gH (xB a b c)])) w:=by
 unfold gH
 rw [run_callFunc_extern Tryz.func151 (by kernel_rfl) (by kernel_rfl) (by kernel_rfl) (e:=add64Entry) (by kernel_rfl),run_add64 (a.toNat:Int) (b.toNat:Int) (c.toNat:Int) (by omega) (by omega) (by omega) (by omega)]
 have ha:=a.toNat_lt
 have hb:=b.toNat_lt
 have e1:(((vi a b c).toNat:Nat):Int)=((a.toNat:Int)+b.toNat+c.toNat)%18446744073709551616:=by
  unfold vi
  rw [UInt64.toNat_ofNat',Nat.mod_eq_of_lt (by omega)]
  omega
 have e2:(((xB a b c).toNat:Nat):Int)=((a.toNat:Int)+b.toNat+c.toNat)/18446744073709551616:=by
  unfold xB
  rw [UInt64.toNat_ofNat',Nat.mod_eq_of_lt (by omega)]
  omega
 rw [e1,e2]
 rfl
theorem au9:aa Tryz.prog 151 (Ud.aD DC aka):=by
 refine aBg (k:=0) (by kernel_rfl) λx oy vs N w hp ho hr=> ?_
 obtain ⟨⟨a,b,c,⟨⟩⟩,⟨⟩⟩:=x
 cases ho
 have hc:c.toNat<=1:=of_decide_eq_true hp
 have hr':SV.bL N [.u64 a,.u64 b,.u64 c] vs:=hr
 simp only [SV.bL,SV.rel] at hr'
 obtain ⟨_,_,rfl,rfl,_,_,rfl,rfl,_,_,rfl,rfl,rfl⟩:=hr'
 refine ⟨.tup [.u64 (vi a b c),.u64 (xB a b c)],_,anO a b c hc w,?_,⟨rfl,by kernel_rfl⟩⟩
 simp only [SV.rel]
 exact ⟨_,rfl,by simp only [SV.bL,SV.rel];exact ⟨_,_,rfl,rfl,_,_,rfl,rfl,rfl⟩⟩
def wY:bw:=(Ud.aD DC aka)
theorem Zp:aa Tryz.prog 151 wY:=au9
theorem Zo:aC wY:=ay
def UH:Env:=aw 151 wY avr
theorem afh:aK Tryz.prog UH:=af Zp avq
theorem UG:ar UH:=ab Zo aff
def TX:ap:=⟨[.val false .u64,.val false .u64,.val false .u64],[],true,0,false⟩
abbrev auJ:Type:=((UInt64)×(UInt64)×(UInt64)×Unit)×(Unit)
def auI:av:=⟨[.val false .u64,.val false .u64],[],false⟩
def Dr (x:auJ):Bool:=decide (x.1.2.2.1.toNat<=1)
def ajR (x:auJ):OT TX.Y:=.ok ⟨auI,((oO x.1.1 x.1.2.1 x.1.2.2.1,UJ x.1.1 x.1.2.1 x.1.2.2.1,()),())⟩
def aAW:Array Value->Sem Value:=λargs=>do
 let (x,y,b) <-Extern.MathBitsCarry.three "Sub64" args
 pure (Extern.MathBitsCarry.pair ((x+Extern.MathBitsCarry.m64-y-b)%Extern.MathBitsCarry.m64) (if x<y+b then 1 else 0))
theorem ak4 {P:Program} (x y b:Nat) (hb:b<=1) (w:World):
 (aAW #[.int .u64 x,.int .u64 y,.int .u64 b]).run P w=
  .ok (.tuple #[.int .u64 (((x+18446744073709551616-y-b)%18446744073709551616:Nat):Int),.int .u64 ((if x<y+b then 1 else 0:Nat):Int)]) w:=by
 have:b=0\/b=1:=by omega
 rcases this with rfl|rfl<;>rfl
theorem anA (a b c:UInt64) (hc:c.toNat<=1) (w:World):(callFunc 153 #[gH a,gH b,gH c]).run Tryz.prog w=.ok (.value (.tuple #[gH (oO a b c),gH (UJ a b c)])) w:=by
 unfold gH
 rw [run_callFunc_extern Tryz.func153 (by kernel_rfl) (by kernel_rfl) (by kernel_rfl) (e:=aAW) (by kernel_rfl),ak4 a.toNat b.toNat c.toNat (by omega)]
 have ha:=a.toNat_lt
 have hb:=b.toNat_lt
 have e1:(oO a b c).toNat=(a.toNat+18446744073709551616-b.toNat-c.toNat)%18446744073709551616:=by
  unfold oO
  rw [UInt64.toNat_ofNat',Nat.mod_eq_of_lt (by omega)]
 have e2:(UJ a b c).toNat=if a.toNat<b.toNat+c.toNat then 1 else 0:=by
  unfold UJ
  rw [UInt64.toNat_ofNat',Nat.mod_eq_of_lt (by split<;>omega)]
 rw [e1,e2]
 rfl
theorem auH:aa Tryz.prog 153 (TX.aD Dr ajR):=by
 refine aBg (k:=0) (by kernel_rfl) λx oy vs N w hp ho hr=> ?_
 obtain ⟨⟨a,b,c,⟨⟩⟩,⟨⟩⟩:=x
 cases ho
 have hc:c.toNat<=1:=of_decide_eq_true hp
 have hr':SV.bL N [.u64 a,.u64 b,.u64 c] vs:=hr
 simp only [SV.bL,SV.rel] at hr'
 obtain ⟨_,_,rfl,rfl,_,_,rfl,rfl,_,_,rfl,rfl,rfl⟩:=hr'
 refine ⟨.tup [.u64 (oO a b c),.u64 (UJ a b c)],_,anA a b c hc w,?_,⟨rfl,by kernel_rfl⟩⟩
 simp only [SV.rel]
 exact ⟨_,rfl,by simp only [SV.bL,SV.rel];exact ⟨_,_,rfl,rfl,_,_,rfl,rfl,rfl⟩⟩
def wR:bw:=(TX.aD Dr ajR)
theorem YT:aa Tryz.prog 153 wR:=auH
theorem YS:aC wR:=ay
def Ba:Env:=aw 153 wR UH
theorem xp:aK Tryz.prog Ba:=af YT afh
theorem A9:ar Ba:=ab YS UG
theorem aaa:aO Tryz.prog te Ba:=aE follows al xp A9
def iK:ap:=⟨[.val false .u64,.val false .u64],[],true,0,false⟩
abbrev Dw:Type:=((UInt64)×(UInt64)×Unit)×(Unit)
def KS:av:=⟨[.val false .u64,.val false .u64],[],false⟩
def Qt:SV->Option av:=λ_=>some KS
def GW (a0:UInt64) (a1:UInt64):OT iK.Y:=
 let z0:UInt64:=aZ a0 (32:Int)
 let z1:UInt64:=aZ a1 (32:Int)
 let z2:UInt64:=z0*(a1&&&(4294967295:UInt64))+aZ ((a0&&&(4294967295:UInt64))*(a1&&&(4294967295:UInt64))) (32:Int)
 (.ok ⟨KS,((z0*z1+aZ z2 (32:Int)+aZ ((z2&&&(4294967295:UInt64))+(a0&&&(4294967295:UInt64))*z1) (32:Int),(a0*a1,())),())⟩)
theorem az9 (x:Dw) (Q:iK.Y->Prop):wpf te Ba ax 1000 Tryz.f165 (iK.inp.inj x).tm (iK.inp.inj x).hp (fnK iK Qt Q) (λ_ _=>False)=(GW (x.1.1) (x.1.2.1)).wpR Q:=by kernel_rfl
theorem aej (pre:Dw->Bool) (F:Dw->OT iK.Y) (hF:∀ (x:Dw) oy,pre x=true->(F x).run=some oy->(GW (x.1.1) (x.1.2.1)).run=some oy):aa Tryz.prog 165 (iK.aD pre F):=
 aB al xp aaa (f:=165) (fn:=Tryz.f165) (c:=ak Tryz.f165) (by kernel_rfl) (by kernel_rfl) (by kernel_rfl) (S:=iK) (k:=0) (by kernel_rfl) (λR hR=>ae) (n:=1000) (sel:=Qt) (λv o h=>by cases h;rfl) (pre:=pre) (F:=F) (T:=λx=>GW (x.1.1) (x.1.2.1)) (λx Q=>az9 x Q) hF
def Qu (_:Dw):Bool:=true
def T3 (x:Dw):OT iK.Y:=.ok ⟨KS,((avu x.1.1 x.1.2.1,(x.1.1*x.1.2.1,())),())⟩
theorem auP:aa Tryz.prog 165 (iK.aD Qu T3):=aej _ _ λx oy _ ho=>by
 rw [<-ho]
 simp only [T3,GW,aGU]
def wU:bw:=(iK.aD Qu T3)
theorem Y2:aa Tryz.prog 165 wU:=auP
theorem Y1:aC wU:=ay
def Bi:Env:=aw 165 wU Ba
theorem xt:aK Tryz.prog Bi:=af Y2 xp
theorem Bh:ar Bi:=ab Y1 A9
theorem aae:aO Tryz.prog te Bi:=aE follows al xt Bh
def iL:ap:=⟨[.val false .u64],[],true,0,false⟩
abbrev Dz:Type:=((UInt64)×Unit)×(Unit)
def eV:av:=⟨[.val false .int],[],false⟩
def Qw:SV->Option av:=λ_=>some eV
def zP (a0:UInt64):OT iL.Y:=
 let z0:UInt64:=aZ a0 (32:Int)
 let z1:UInt64:=aZ z0 (16:Int)
 let z2:Int:=(↑(UInt8.toNat (UInt64.toUInt8 (aZ z1 (8:Int)))):Int)
 let z3:List UInt8:=List.replicate 64 (8:UInt8)
 let z4:List UInt8:=List.append (List.append [(0:UInt8),(1:UInt8),(2:UInt8),(2:UInt8),(3:UInt8),(3:UInt8),(3:UInt8),(3:UInt8),(4:UInt8),(4:UInt8),(4:UInt8),(4:UInt8),(4:UInt8),(4:UInt8),(4:UInt8),(4:UInt8),(5:UInt8),(5:UInt8),(5:UInt8),(5:UInt8),(5:UInt8),(5:UInt8),(5:UInt8),(5:UInt8),(5:UInt8),(5:UInt8),(5:UInt8),(5:UInt8),(5:UInt8),(5:UInt8),(5:UInt8),(5:UInt8),(6:UInt8),(6:UInt8),(6:UInt8),(6:UInt8),(6:UInt8),(6:UInt8),(6:UInt8),(6:UInt8),(6:UInt8),(6:UInt8),(6:UInt8),(6:UInt8),(6:UInt8),(6:UInt8),(6:UInt8),(6:UInt8),(6:UInt8),(6:UInt8),(6:UInt8),(6:UInt8),(6:UInt8),(6:UInt8),(6:UInt8),(6:UInt8),(6:UInt8),(6:UInt8),(6:UInt8),(6:UInt8),(6:UInt8),(6:UInt8),(6:UInt8),(6:UInt8)] (List.replicate 64 (7:UInt8))) (List.append z3 z3)
 let z5:Int:=(56:Int)+(↑(UInt8.toNat (List.getD z4 (Int.toNat z2) (0:UInt8))):Int)
 let z6:Int:=(↑(UInt8.toNat (UInt64.toUInt8 z1)):Int)
 let z7:Int:=(48:Int)+(↑(UInt8.toNat (List.getD z4 (Int.toNat z6) (0:UInt8))):Int)
 let z8:Int:=(↑(UInt8.toNat (UInt64.toUInt8 (aZ z0 (8:Int)))):Int)
 let z9:Int:=(40:Int)+(↑(UInt8.toNat (List.getD z4 (Int.toNat z8) (0:UInt8))):Int)
 let z10:Int:=(↑(UInt8.toNat (UInt64.toUInt8 z0)):Int)
 let z11:Int:=(32:Int)+(↑(UInt8.toNat (List.getD z4 (Int.toNat z10) (0:UInt8))):Int)
 let z12:UInt64:=aZ a0 (16:Int)
 let z13:Int:=(↑(UInt8.toNat (UInt64.toUInt8 (aZ z12 (8:Int)))):Int)
 let z14:Int:=(24:Int)+(↑(UInt8.toNat (List.getD z4 (Int.toNat z13) (0:UInt8))):Int)
 let z15:Int:=(↑(UInt8.toNat (UInt64.toUInt8 z12)):Int)
 let z16:Int:=(16:Int)+(↑(UInt8.toNat (List.getD z4 (Int.toNat z15) (0:UInt8))):Int)
 let z17:Int:=(↑(UInt8.toNat (UInt64.toUInt8 (aZ a0 (8:Int)))):Int)
 let z18:Int:=(8:Int)+(↑(UInt8.toNat (List.getD z4 (Int.toNat z17) (0:UInt8))):Int)
 let z19:Int:=(↑(UInt8.toNat (UInt64.toUInt8 a0)):Int)
 let z20:Int:=(0:Int)+(↑(UInt8.toNat (List.getD z4 (Int.toNat z19) (0:UInt8))):Int)
 (.br (decide ((4294967296:UInt64)<=a0))
 (.br (decide ((65536:UInt64)<=z0))
  (.br (decide ((256:UInt64)<=z1))
   (gd [inB z2 256,inR z5] (.ok ⟨eV,((z5,()),())⟩))
   (gd [inB z6 256,inR z7] (.ok ⟨eV,((z7,()),())⟩)))
  (.br (decide ((256:UInt64)<=z0))
   (gd [inB z8 256,inR z9] (.ok ⟨eV,((z9,()),())⟩))
   (gd [inB z10 256,inR z11] (.ok ⟨eV,((z11,()),())⟩))))
 (.br (decide ((65536:UInt64)<=a0))
  (.br (decide ((256:UInt64)<=z12))
   (gd [inB z13 256,inR z14] (.ok ⟨eV,((z14,()),())⟩))
   (gd [inB z15 256,inR z16] (.ok ⟨eV,((z16,()),())⟩)))
  (.br (decide ((256:UInt64)<=a0))
   (gd [inB z17 256,inR z18] (.ok ⟨eV,((z18,()),())⟩))
   (gd [inB z19 256,inR z20] (.ok ⟨eV,((z20,()),())⟩)))))
theorem aAb (x:Dz) (Q:iL.Y->Prop):wpf te Bi ax 1000 Tryz.f166 (iL.inp.inj x).tm (iL.inp.inj x).hp (fnK iL Qw Q) (λ_ _=>False)=(zP (x.1.1)).wpR Q:=by kernel_rfl
theorem aeo (pre:Dz->Bool) (F:Dz->OT iL.Y) (hF:∀ (x:Dz) oy,pre x=true->(F x).run=some oy->(zP (x.1.1)).run=some oy):aa Tryz.prog 166 (iL.aD pre F):=
 aB al xt aae (f:=166) (fn:=Tryz.f166) (c:=ak Tryz.f166) (by kernel_rfl) (by kernel_rfl) (by kernel_rfl) (S:=iL) (k:=0) (by kernel_rfl) (λR hR=>ae) (n:=1000) (sel:=Qw) (λv o h=>by cases h;rfl) (pre:=pre) (F:=F) (T:=λx=>zP (x.1.1)) (λx Q=>aAb x Q) hF
def fA (x:UInt64):Bool:=(x==16513537)||(x==16521217)
theorem dO {x:UInt64} (h:fA x=true):x=16513537\/x=16521217:=by
 simpa [fA] using h
def Dy (x:Dz):Bool:=fA x.1.1
def aj0 (_:Dz):OT iL.Y:=.ok ⟨eV,(((24:Int),()),())⟩
theorem Y7:(zP 16513537).run=some ⟨eV,(((24:Int),()),())⟩/\(zP 16521217).run=some ⟨eV,(((24:Int),()),())⟩:=⟨by kernel_rfl,by kernel_rfl⟩
theorem auT:aa Tryz.prog 166 (iL.aD Dy aj0):=aeo _ _ λx oy hp ho=>by
 rw [<-ho]
 clear ho
 obtain ⟨⟨x,⟨⟩⟩,⟨⟩⟩:=x
 rcases dO hp with h|h
 ·have h:x=16513537:=h
  subst h
  exact Y7.1
 ·have h:x=16521217:=h
  subst h
  exact Y7.2
def wV:bw:=(iL.aD Dy aj0)
theorem Y6:aa Tryz.prog 166 wV:=auT
theorem Y5:aC wV:=ay
def Bk:Env:=aw 166 wV Bi
theorem xw:aK Tryz.prog Bk:=af Y6 xt
theorem Bj:ar Bk:=ab Y5 Bh
theorem aag:aO Tryz.prog te Bk:=aE follows al xw Bj
def lJ:ap:=⟨[.val false .u64],[],true,0,false⟩
abbrev Qv:Type:=((UInt64)×Unit)×(Unit)
def T4:av:=⟨[.val false .int],[],false⟩
def Y3:SV->Option av:=λ_=>some T4
def aen (a0:UInt64):OT lJ.Y:=
 (gd [Dy ((a0,()),())] (.ok ⟨T4,(((40:Int),()),())⟩))
theorem aFy (x:Qv) (Q:lJ.Y->Prop):wpf te Bk ax 1000 Tryz.f154 (lJ.inp.inj x).tm (lJ.inp.inj x).hp (fnK lJ Y3 Q) (λ_ _=>False)=(aen (x.1.1)).wpR Q:=by kernel_rfl
theorem anK (pre:Qv->Bool) (F:Qv->OT lJ.Y) (hF:∀ (x:Qv) oy,pre x=true->(F x).run=some oy->(aen (x.1.1)).run=some oy):aa Tryz.prog 154 (lJ.aD pre F):=
 aB al xw aag (f:=154) (fn:=Tryz.f154) (c:=ak Tryz.f154) (by kernel_rfl) (by kernel_rfl) (by kernel_rfl) (S:=lJ) (k:=0) (by kernel_rfl) (λR hR=>ae) (n:=1000) (sel:=Y3) (λv o h=>by cases h;rfl) (pre:=pre) (F:=F) (T:=λx=>aen (x.1.1)) (λx Q=>aFy x Q) hF
def KV (x:Qv):Bool:=fA x.1.1
def auS (_:Qv):OT lJ.Y:=.ok ⟨T4,(((40:Int),()),())⟩
theorem aAa:aa Tryz.prog 154 (lJ.aD KV auS):=anK _ _ λx oy hp ho=>by
 rw [<-ho]
 clear ho
 obtain ⟨⟨x,⟨⟩⟩,⟨⟩⟩:=x
 have hp:fA x=true:=hp
 refine (aj ?_).trans rfl
 simp only [List.all_cons,List.all_nil,Bool.and_true,Bool.and_eq_true]
 first|exact hp|exact ⟨hp,rfl⟩
def Dx:bw:=(lJ.aD KV auS)
theorem aem:aa Tryz.prog 154 Dx:=aAa
theorem ael:aC Dx:=ay
def xv:Env:=aw 154 Dx Bk
theorem oA:aK Tryz.prog xv:=af aem xw
theorem F6:ar xv:=ab ael Bj
theorem xu:aO Tryz.prog te xv:=aE follows al oA F6
def gp:ap:=⟨[.val false .u64,.val false .u64,.val false .u64],[],true,0,false⟩
abbrev DA:Type:=((UInt64)×(UInt64)×(UInt64)×Unit)×(Unit)
def sD:Shape:=⟨135,[(2,.val false .u64),(8,.val false .u64),(9,.val false .u64),(10,.val false .u64),(11,.val false .u64),(13,.val false .u64),(14,.val false .u64),(15,.val false .u64),(16,.val false .u64)],[],0,true⟩
abbrev cy:Type:=((UInt64)×(UInt64)×(UInt64)×(UInt64)×(UInt64)×(UInt64)×(UInt64)×(UInt64)×(UInt64)×Unit)×(Unit)
def lL:Shape:=⟨135,[(2,.val false .u64),(8,.val false .u64),(9,.val false .u64),(10,.val false .u64),(11,.val false .u64),(13,.val false .u64),(14,.val false .u64),(15,.val false .u64)],[],0,true⟩
abbrev jJ:Type:=((UInt64)×(UInt64)×(UInt64)×(UInt64)×(UInt64)×(UInt64)×(UInt64)×(UInt64)×Unit)×(Unit)
def Zd:SE->Option Shape:=gI [(0,lL)] none
def au1 (a2:UInt64) (a8:UInt64) (a9:UInt64) (a10:UInt64) (a11:UInt64) (a13:UInt64) (a14:UInt64) (a15:UInt64) (a16:UInt64):OT (Sum cy aI):=
 let z0:Bool:=decide ((4294967296:UInt64)<=a16+a9)
 (.br (decide ((4294967296:UInt64)<=a15))
 (.br (z0)
  (.ok (.inr ⟨(.exit 0,lL),((a2,(a8,(a9,(a10,(a11,(a13,(a14,(a15-(1:UInt64),())))))))),())⟩))
  (.ok (.inl ((a2,(a8,(a9,(a10,(a11,(a13,(a14,(a15-(1:UInt64),(a16+a9,()))))))))),()))))
 (.br (decide ((4294967296:UInt64)*a16+a13<a15*a10))
  (.br (z0)
   (.ok (.inr ⟨(.exit 0,lL),((a2,(a8,(a9,(a10,(a11,(a13,(a14,(a15-(1:UInt64),())))))))),())⟩))
   (.ok (.inl ((a2,(a8,(a9,(a10,(a11,(a13,(a14,(a15-(1:UInt64),(a16+a9,()))))))))),()))))
  (.ok (.inr ⟨(.exit 0,lL),((a2,(a8,(a9,(a10,(a11,(a13,(a14,(a15,())))))))),())⟩))))
def zU (s:cy):OT (Sum cy aI):=au1 (s.1.1) (s.1.2.1) (s.1.2.2.1) (s.1.2.2.2.1) (s.1.2.2.2.2.1) (s.1.2.2.2.2.2.1) (s.1.2.2.2.2.2.2.1) (s.1.2.2.2.2.2.2.2.1) (s.1.2.2.2.2.2.2.2.2.1)
theorem auW (s:cy) (Q:Sum cy aI->Prop):wps te xv ax 1000 (bg (ak Tryz.f128) 0) (sD.inj s) (cz sD Zd (Q:Sum sD.T aI->Prop))=(zU s).wpR Q:=by kernel_rfl
def zS (g0_0:cy->jJ) (s:cy):OT aI:=(.ok ⟨(.exit 0,lL),g0_0 s⟩)
def sC:Shape:=⟨135,[(2,.val false .u64),(8,.val false .u64),(9,.val false .u64),(10,.val false .u64),(14,.val false .u64),(15,.val false .u64),(16,.val false .u64),(17,.val false .u64),(18,.val false .u64)],[],0,true⟩
abbrev cx:Type:=((UInt64)×(UInt64)×(UInt64)×(UInt64)×(UInt64)×(UInt64)×(UInt64)×(UInt64)×(UInt64)×Unit)×(Unit)
def lK:Shape:=⟨135,[(2,.val false .u64),(8,.val false .u64),(14,.val false .u64),(15,.val false .u64),(17,.val false .u64),(18,.val false .u64)],[],0,true⟩
abbrev jI:Type:=((UInt64)×(UInt64)×(UInt64)×(UInt64)×(UInt64)×(UInt64)×Unit)×(Unit)
def Zc:SE->Option Shape:=gI [(2,lK)] none
def au0 (a2:UInt64) (a8:UInt64) (a9:UInt64) (a10:UInt64) (a14:UInt64) (a15:UInt64) (a16:UInt64) (a17:UInt64) (a18:UInt64):OT (Sum cx aI):=
 let z0:Bool:=decide ((4294967296:UInt64)<=a16+a9)
 (.br (decide ((4294967296:UInt64)<=a18))
 (.br (z0)
  (.ok (.inr ⟨(.exit 2,lK),((a2,(a8,(a14,(a15,(a17,(a18-(1:UInt64),())))))),())⟩))
  (.ok (.inl ((a2,(a8,(a9,(a10,(a14,(a15,(a16+a9,(a17,(a18-(1:UInt64),()))))))))),()))))
 (.br (decide ((4294967296:UInt64)*a16+a14<a18*a10))
  (.br (z0)
   (.ok (.inr ⟨(.exit 2,lK),((a2,(a8,(a14,(a15,(a17,(a18-(1:UInt64),())))))),())⟩))
   (.ok (.inl ((a2,(a8,(a9,(a10,(a14,(a15,(a16+a9,(a17,(a18-(1:UInt64),()))))))))),()))))
  (.ok (.inr ⟨(.exit 2,lK),((a2,(a8,(a14,(a15,(a17,(a18,())))))),())⟩))))
def zT (s:cx):OT (Sum cx aI):=au0 (s.1.1) (s.1.2.1) (s.1.2.2.1) (s.1.2.2.2.1) (s.1.2.2.2.2.1) (s.1.2.2.2.2.2.1) (s.1.2.2.2.2.2.2.1) (s.1.2.2.2.2.2.2.2.1) (s.1.2.2.2.2.2.2.2.2.1)
theorem auV (s:cx) (Q:Sum cx aI->Prop):wps te xv ax 1000 (bg (ak Tryz.f128) 2) (sC.inj s) (cz sC Zc (Q:Sum sC.T aI->Prop))=(zT s).wpR Q:=by kernel_rfl
def zR (g2_2:cx->jI) (s:cx):OT aI:=(.ok ⟨(.exit 2,lK),g2_2 s⟩)
def oe:av:=⟨[.val false .u64,.val false .u64],[],false⟩
def Qx:SV->Option av:=λ_=>some oe
def GY (ok0:cy->Bool) (g0_0:cy->jJ) (ok2:cx->Bool) (g2_2:cx->jI) (a0:UInt64) (a1:UInt64) (a2:UInt64):OT gp.Y:=
 let z0:Bool:= !a2==(0:UInt64)
 let z1:UInt64:=bH a2 (40:Int)
 let z2:UInt64:=aZ z1 (32:Int)
 let z3:UInt64:=bH a0 (40:Int)|||aZ a1 (24:Int)
 let z4:UInt64:=bH a1 (40:Int)
 let z5:UInt64:=z3/z2
 let z6:(UInt64×UInt64×UInt64×UInt64×UInt64×UInt64×UInt64×UInt64×UInt64×PUnit)×PUnit:=((z1,(40:UInt64),z2,z1&&&(4294967295:UInt64),z3,aZ z4 (32:Int),z4&&&(4294967295:UInt64),z5,z3-z5*z2,()),())
 let z7:=(g0_0 z6).fst
 let z8:=z7.snd
 let z9:=z8.snd
 let z10:=z9.fst
 let z11:=z7.fst
 let z12:=z9.snd
 let z13:=z12.snd
 let z14:=z13.snd
 let z15:=z14.snd
 let z16:=z15.snd.fst
 let z17:UInt64:=z13.fst*(4294967296:UInt64)+z14.fst-z16*z11
 let z18:UInt64:=z17/z10
 let z19:(UInt64×UInt64×UInt64×UInt64×UInt64×UInt64×UInt64×UInt64×UInt64×PUnit)×PUnit:=((z11,z8.fst,z10,z12.fst,z15.fst,z16,z17-z18*z10,z17,z18,()),())
 let z20:=(g2_2 z19).fst
 let z21:=z20.snd
 let z22:=z21.snd
 let z23:=z22.snd
 let z24:=z23.snd
 let z25:=z24.snd.fst
 (.br (a2==(0:UInt64))
 .fail
 (.br (decide (a2<=a0))
  .fail
  (.br (a0==(0:UInt64))
   (gd [z0,z0] (.ok ⟨oe,((a1/a2,(a1%a2,())),())⟩))
   (gd [KV ((a2,()),()),!z2==(0:UInt64),ok0 z6,!z10==(0:UInt64),ok2 z19] (.ok ⟨oe,((z23.fst*(4294967296:UInt64)+z25,(aZ (z24.fst*(4294967296:UInt64)+z22.fst-z25*z20.fst) (↑(UInt64.toNat z21.fst):Int),())),())⟩)))))
theorem aAc (ok0:cy->Bool) (g0_0:cy->jJ) (ok2:cx->Bool) (g2_2:cx->jI) (x:DA) (Q:gp.Y->Prop):wpf te xv (be 2 (cE sC 2 ok2 (zR g2_2)) (be 0 (cE sD 0 ok0 (zS g0_0)) ax)) 1000 Tryz.f128 (gp.inp.inj x).tm (gp.inp.inj x).hp (fnK gp Qx Q) (λ_ _=>False)=(GY ok0 g0_0 ok2 g2_2 (x.1.1) (x.1.2.1) (x.1.2.2.1)).wpR Q:=by kernel_rfl
theorem aeu (ok0:cy->Bool) (g0_0:cy->jJ) (ok2:cx->Bool) (g2_2:cx->jI) (h0:∀ s:cy,ok0 s=true->∃ m e,aA (zU) m s=some e/\(zS g0_0 s).run=some e) (h2:∀ s:cx,ok2 s=true->∃ m e,aA (zT) m s=some e/\(zR g2_2 s).run=some e) (pre:DA->Bool) (F:DA->OT gp.Y) (hF:∀ (x:DA) oy,pre x=true->(F x).run=some oy->(GY ok0 g0_0 ok2 g2_2 (x.1.1) (x.1.2.1) (x.1.2.2.1)).run=some oy):aa Tryz.prog 128 (gp.aD pre F):=
 aB al oA xu (f:=128) (fn:=Tryz.f128) (c:=ak Tryz.f128) (by kernel_rfl) (by kernel_rfl) (by kernel_rfl) (S:=gp) (k:=0) (by kernel_rfl) (λR hR=>(aG (c:=(ak Tryz.f128)) (by kernel_rfl) (id:=2) (by kernel_rfl) (ba al oA xu (sh:=sC) hR (xs:=Zc) (aF (by kernel_rfl) (by kernel_rfl) hR) aN ae (n:=1000) (T:=zT) (λs Q=>auV s Q) (ok:=ok2) (f:=zR g2_2) h2) (aG (c:=(ak Tryz.f128)) (by kernel_rfl) (id:=0) (by kernel_rfl) (ba al oA xu (sh:=sD) hR (xs:=Zd) (aF (by kernel_rfl) (by kernel_rfl) hR) aN ae (n:=1000) (T:=zU) (λs Q=>auW s Q) (ok:=ok0) (f:=zS g0_0) h0) ae))) (n:=1000) (sel:=Qx) (λv o h=>by cases h;rfl) (pre:=pre) (F:=F) (T:=λx=>GY ok0 g0_0 ok2 g2_2 (x.1.1) (x.1.2.1) (x.1.2.2.1)) (λx Q=>aAc ok0 g0_0 ok2 g2_2 x Q) hF
def Qz (s:cy):Bool:=decide (s.1.2.2.2.1=0/\s.1.2.2.2.2.2.2.2.1<4294967296)
def Zi (s:cy):jJ:=((s.1.1,s.1.2.1,s.1.2.2.1,s.1.2.2.2.1,s.1.2.2.2.2.1,s.1.2.2.2.2.2.1,s.1.2.2.2.2.2.2.1,s.1.2.2.2.2.2.2.2.1,()),())
theorem Ji {a b:UInt64} (h:b<a):decide (a<=b)=false:=decide_eq_false (by rw [UInt64.le_iff_toNat_le,UInt64.lt_iff_toNat_lt] at*;omega)
theorem not_lt_zero {a b:UInt64}:decide (a<b*0)=false:=decide_eq_false (by
 have:b*0=0:=by rw [<-UInt64.toNat_inj];simp
 rw [this,UInt64.lt_iff_toNat_lt]
 exact Nat.not_lt_zero _)
theorem auZ:∀ s:cy,Qz s=true->∃ m e,aA zU m s=some e/\(zS Zi s).run=some e:=by
 rintro ⟨⟨a2,a8,a9,a10,a11,a13,a14,a15,a16,⟨⟩⟩,⟨⟩⟩ h
 have h':=of_decide_eq_true h
 dsimp only at h'
 obtain ⟨rfl,hl⟩:=h'
 exact ⟨1,_,bc ((OT.aq (Ji hl)).trans (OT.aq not_lt_zero)),rfl⟩
def Qy (s:cx):Bool:=decide (s.1.2.2.2.1=0/\s.1.2.2.2.2.2.2.2.2.1<4294967296)
def Zh (s:cx):jI:=((s.1.1,s.1.2.1,s.1.2.2.2.2.1,s.1.2.2.2.2.2.1,s.1.2.2.2.2.2.2.2.1,s.1.2.2.2.2.2.2.2.2.1,()),())
theorem auY:∀ s:cx,Qy s=true->∃ m e,aA zT m s=some e/\(zR Zh s).run=some e:=by
 rintro ⟨⟨a2,a8,a9,a10,a14,a15,a16,a17,a18,⟨⟩⟩,⟨⟩⟩ h
 have h':=of_decide_eq_true h
 dsimp only at h'
 obtain ⟨rfl,hl⟩:=h'
 exact ⟨1,_,bc ((OT.aq (Ji hl)).trans (OT.aq not_lt_zero)),rfl⟩
def uB (x:DA):Bool:=fA x.1.2.2.1&&decide (x.1.1<x.1.2.2.1)
def T9 (x:DA):OT gp.Y:=.ok ⟨oe,((aFS x.1.1 x.1.2.1 x.1.2.2.1,YA x.1.1 x.1.2.1 x.1.2.2.1,()),())⟩
theorem aou {v z:Nat} (hv:v<4294967296) (hz:z<4294967296):(v*4294967296%2^64+z)%2^64=(v*(256*16777216)+z)%2^64:=by
 rw [Nat.mod_eq_of_lt (a:=v*4294967296) (by omega)]
theorem avz {s:Nat} (hs:s<4294967296):s*4294967296/2^40=s/256%2^64:=by
 rw [Nat.mod_eq_of_lt (by omega),show (2:Nat)^40=256*4294967296 from rfl,Nat.mul_div_mul_right _ _ (by omega)]
theorem Ze {h l y:UInt64} {m:Nat} (hm:y.toNat=m) (hy:(bH y 40).toNat=m*1099511627776) (hy1:(aZ (bH y 40) 32).toNat=m*256) (hy0:bH y 40&&&4294967295=0) (hm0:0<m) (hm1:m<16777216) (hh:h.toNat<m):
 let u:=bH h 40|||aZ l 24
 let q1:=u/aZ (bH y 40) 32
 let un21:=u*4294967296+aZ (bH l 40) 32-q1*bH y 40
 let q0:=un21/aZ (bH y 40) 32
 q1<4294967296/\q0<4294967296/\q1*4294967296+q0=aFS h l y/\aZ (un21*4294967296+(bH l 40&&&4294967295)-q0*bH y 40) 40=YA h l y:=by
 intro u q1 un21 q0
 have hl:=l.toNat_lt
 have hu:u.toNat=h.toNat*1099511627776+l.toNat/16777216:=by
  have e1:(bH h 40).toNat=h.toNat*1099511627776:=by
   rw [show ((40:Int))=((40:Nat):Int) from rfl,kS _ _ (by omega)]
   exact Nat.mod_eq_of_lt (by omega)
  have e2:(aZ l 24).toNat=l.toNat/16777216:=fm l 24 (by omega)
  simp only [u]
  rw [UInt64.toNat_or,e1,e2,Nat.mul_comm]
  have:=Nat.two_pow_add_eq_or_of_lt (i:=40) (b:=l.toNat/16777216) (by omega) h.toNat
  exact this.symm
 have hun1:(aZ (bH l 40) 32).toNat=l.toNat%16777216*256:=by
  rw [show ((32:Int))=((32:Nat):Int) from rfl,fm _ _ (by omega),show ((40:Int))=((40:Nat):Int) from rfl,kS _ _ (by omega)]
  omega
 have hun0:bH l 40&&&4294967295=0:=by
  rw [<-UInt64.toNat_inj,ji,show ((40:Int))=((40:Nat):Int) from rfl,kS _ _ (by omega)]
  show l.toNat*2^40%2^64%4294967296=0
  omega
 have hq1:q1.toNat=u.toNat/(m*256):=by simp only [q1];rw [UInt64.toNat_div,hy1]
 have hN:h.toNat*18446744073709551616+l.toNat=u.toNat*16777216+l.toNat%16777216:=by rw [hu];omega
 have hqr:u.toNat=q1.toNat*(m*256)+u.toNat%(m*256):=by
  rw [hq1,Nat.mul_comm]
  exact (Nat.div_add_mod _ _).symm
 have hr:u.toNat%(m*256)<m*256:=Nat.mod_lt _ (by omega)
 have hul:u.toNat<m*256*4294967296:=by rw [hu];omega
 have hq1l:q1.toNat<4294967296:=by rw [hq1];exact Nat.div_lt_of_lt_mul hul
 generalize hrr:u.toNat%(m*256)=r at*
 have hprod:q1.toNat*(m*1099511627776)=q1.toNat*(m*256)*4294967296:=by
  rw [Nat.mul_assoc,Nat.mul_assoc]
 have h21:un21.toNat=r*4294967296+l.toNat%16777216*256:=by
  simp only [un21]
  rw [UInt64.toNat_sub,UInt64.toNat_add,UInt64.toNat_mul,UInt64.toNat_mul,hun1,hy,hprod,show (4294967296:UInt64).toNat=4294967296 from rfl]
  generalize q1.toNat*(m*256)=A at*
  omega
 have hq0:q0.toNat=un21.toNat/(m*256):=by simp only [q0];rw [UInt64.toNat_div,hy1]
 have h21l:un21.toNat<m*256*4294967296:=by rw [h21];omega
 have hq0l:q0.toNat<4294967296:=by rw [hq0];exact Nat.div_lt_of_lt_mul h21l
 have hqr0:un21.toNat=q0.toNat*(m*256)+un21.toNat%(m*256):=by
  rw [hq0,Nat.mul_comm]
  exact (Nat.div_add_mod _ _).symm
 have hr0:un21.toNat%(m*256)<m*256:=Nat.mod_lt _ (by omega)
 obtain ⟨d1,d2⟩:=Tz (K:=16777216) (L:=256) hm0 (by omega) hN hqr
 have e21:(r*16777216+l.toNat%16777216)*256=un21.toNat:=by rw [h21];omega
 rw [e21] at d1 d2
 refine ⟨by rw [UInt64.lt_iff_toNat_lt];exact hq1l,by rw [UInt64.lt_iff_toNat_lt];exact hq0l,?_,?_⟩
 ·rw [<-UInt64.toNat_inj,UInt64.toNat_add,UInt64.toNat_mul,show (4294967296:UInt64).toNat=4294967296 from rfl,hq0]
  unfold aFS
  rw [hm,UInt64.toNat_ofNat',d1,<-hq0]
  exact aou hq1l hq0l
 ·have hprod0:q0.toNat*(m*1099511627776)=q0.toNat*(m*256)*4294967296:=by
   rw [Nat.mul_assoc,Nat.mul_assoc]
  have e3:(un21*4294967296+(bH l 40&&&4294967295)-q0*bH y 40).toNat=(un21.toNat%(m*256))*4294967296:=by
   rw [hun0,UInt64.toNat_sub,UInt64.toNat_add,UInt64.toNat_mul,UInt64.toNat_mul,hy,hprod0,show (4294967296:UInt64).toNat=4294967296 from rfl,show (0:UInt64).toNat=0 from rfl]
   generalize un21.toNat%(m*256)=s at*
   generalize q0.toNat*(m*256)=A at*
   omega
  rw [<-UInt64.toNat_inj,show ((40:Int))=((40:Nat):Int) from rfl,fm _ _ (by omega),show ((40:Nat):Int)=40 from rfl,e3]
  unfold YA
  rw [hm,UInt64.toNat_ofNat',d2]
  exact avz (by omega)
theorem abm {y:UInt64} (h:fA y=true):∃ m,y.toNat=m/\(bH y 40).toNat=m*1099511627776/\(aZ (bH y 40) 32).toNat=m*256/\bH y 40&&&4294967295=0/\0<m/\m<16777216:=by
 rcases dO h with rfl|rfl
 ·exact ⟨16513537,rfl,by decide+kernel,by decide+kernel,by decide+kernel,by omega,by omega⟩
 ·exact ⟨16521217,rfl,by decide+kernel,by decide+kernel,by decide+kernel,by omega,by omega⟩
theorem auX:aa Tryz.prog 128 (gp.aD uB T9):=aeu Qz Zi Qy Zh auZ auY _ _ λx oy hp ho=>by
 rw [<-ho]
 clear ho
 obtain ⟨⟨h,l,y,⟨⟩⟩,⟨⟩⟩:=x
 have hp':(fA y&&decide (h<y))=true:=hp
 rw [Bool.and_eq_true] at hp'
 obtain ⟨hs,hlt⟩:=hp'
 have hlt:=of_decide_eq_true hlt
 obtain ⟨m,f1,f2,f3,f4,f5,f6⟩:=abm hs
 have hh:h.toNat<m:=by rw [<-f1];exact UInt64.lt_iff_toNat_lt.1 hlt
 have hy0:¬y=0:=λe=>by rw [e] at f1;simp at f1;omega
 have hyb:(y==0)=false:=by simpa using hy0
 have hle:decide (y<=h)=false:=Ji hlt
 unfold GY
 refine (OT.aq hyb).trans ((OT.aq hle).trans ?_)
 by_cases h0:h=0
 ·subst h0
  refine (OT.az rfl).trans ((aj ?_).trans ?_)
  ·simp only [hyb,List.all_cons,List.all_nil,Bool.and_true,Bool.not_false]
  ·have e1:aFS 0 l y=l/y:=by
    rw [<-UInt64.toNat_inj]
    unfold aFS
    rw [UInt64.toNat_ofNat',UInt64.toNat_div,show (0:UInt64).toNat=0 from rfl,Nat.zero_mul,Nat.zero_add]
    exact Nat.mod_eq_of_lt (Nat.lt_of_le_of_lt (Nat.div_le_self _ _) l.toNat_lt)
   have e2:YA 0 l y=l%y:=by
    rw [<-UInt64.toNat_inj]
    unfold YA
    rw [UInt64.toNat_ofNat',UInt64.toNat_mod,show (0:UInt64).toNat=0 from rfl,Nat.zero_mul,Nat.zero_add]
    exact Nat.mod_eq_of_lt (Nat.lt_of_le_of_lt (Nat.mod_le _ _) l.toNat_lt)
   simp only [T9,e1,e2]
 ·have hb:(h==0)=false:=by simpa using h0
  obtain ⟨w1,w2,w3,w4⟩:=Ze (l:=l) f1 f2 f3 f4 f5 f6 hh
  have hz:(!(aZ (bH y 40) 32==0))=true:=by
   have:¬aZ (bH y 40) 32=0:=λe=>by rw [e] at f3;simp at f3;omega
   simpa using this
  refine (OT.aq hb).trans ((aj ?_).trans ?_)
  ·simp only [List.all_cons,List.all_nil,Bool.and_true,Bool.and_eq_true]
   exact ⟨hs,hz,decide_eq_true ⟨f4,w1⟩,hz,decide_eq_true ⟨f4,w2⟩⟩
  ·show some (⟨oe,((_,aZ _ ((40:UInt64).toNat:Int),()),())⟩:gp.Y)=some ⟨oe,((aFS h l y,YA h l y,()),())⟩
   rw [<-w3,<-w4]
   rfl
def wW:bw:=(gp.aD uB T9)
theorem Zg:aa Tryz.prog 128 wW:=auX
theorem Zf:aC wW:=ay
def va:Env:=aw 128 wW xv
theorem pZ:aK Tryz.prog va:=af Zg oA
theorem Bl:ar va:=ab Zf F6
theorem F7:aO Tryz.prog te va:=aE follows al pZ Bl
def qs:ap:=⟨[.val true .elem,.val true .elem],[],true,0,false⟩
abbrev akn:Type:=((ag)×(ag)×Unit)×(Unit)
def Hh:Shape:=⟨29,[(2,.ptr 0 0 0),(3,.ptr 1 0 0),(4,.ptr 2 0 0),(6,.ptr 3 0 0),(7,.val false .u64),(9,.val false .int)],[(0,.row .u64),(1,.row .u64),(2,.row .u64),(3,.row .u64)],0,true⟩
abbrev dw:Type:=((Unit)×(Unit)×(Unit)×(Unit)×(UInt64)×(Int)×Unit)×((List (UInt64))×(List (UInt64))×(List (UInt64))×(List (UInt64))×Unit)
def xG:Shape:=⟨29,[(4,.ptr 0 0 0),(6,.ptr 1 0 0),(7,.val false .u64)],[(0,.row .u64),(1,.row .u64)],0,true⟩
abbrev mY:Type:=((Unit)×(Unit)×(UInt64)×Unit)×((List (UInt64))×(List (UInt64))×Unit)
def aox:SE->Option Shape:=gI [(0,xG)] none
def aBJ (a7:UInt64) (a9:Int) (c0:List (UInt64)) (c1:List (UInt64)) (c2:List (UInt64)) (c3:List (UInt64)):OT (Sum dw aI):=
 let z0:Bool:=inB a9 4
 let z1:UInt64:=List.getD c0 (Int.toNat a9+0) (0:UInt64)
 let z2:UInt64:=List.getD c1 (Int.toNat a9+0) (0:UInt64)
 (.br (decide (a9<(4:Int)))
 (gd [z0,decide (Int.toNat a9+0<List.length c0),z0,decide (Int.toNat a9+0<List.length c1),DC ((z1,z2,a7,()),()),z0,decide (Int.toNat a9+0<List.length c3),inR (a9+(1:Int))] (.ok (.inl (((),((),((),((),(xB z1 z2 a7,(a9+(1:Int),())))))),(c0,(c1,(c2,(List.set c3 (Int.toNat a9+0) (vi z1 z2 a7),()))))))))
 (.ok (.inr ⟨(.exit 0,xG),(((),((),(a7,()))),(c2,(c3,())))⟩)))
def Hi (s:dw):OT (Sum dw aI):=aBJ (s.1.2.2.2.2.1) (s.1.2.2.2.2.2.1) (s.2.1) (s.2.2.1) (s.2.2.2.1) (s.2.2.2.2.1)
theorem aBG (s:dw) (Q:Sum dw aI->Prop):wps te va ax 1000 (bg (ak Tryz.f119) 0) (Hh.inj s) (cz Hh aox (Q:Sum Hh.T aI->Prop))=(Hi s).wpR Q:=by kernel_rfl
def QY (g0_0:dw->mY) (s:dw):OT aI:=(.ok ⟨(.exit 0,xG),g0_0 s⟩)
def aat:av:=⟨[.val true .elem,.val false .bool],[],false⟩
def afr:SV->Option av:=λ_=>some aat
def aoA (ok0:dw->Bool) (g0_0:dw->mY) (a0:ag) (a1:ag):OT qs.Y:=
 let z0:(PUnit×PUnit×PUnit×PUnit×UInt64×Int×PUnit)×List UInt64×List UInt64×List UInt64×List UInt64×PUnit:=(((),(),(),(),(0:UInt64),(0:Int),()),[a0.w0,a0.w1,a0.w2,a0.w3],[a1.w0,a1.w1,a1.w2,a1.w3],[(0:UInt64),(0:UInt64),(0:UInt64),(0:UInt64)],[(0:UInt64),(0:UInt64),(0:UInt64),(0:UInt64)],())
 let z1:(PUnit×PUnit×UInt64×PUnit)×List UInt64×List UInt64×PUnit:=g0_0 z0
 let z2:=z1.snd
 let z3:=z2.snd.fst
 let z4:=z2.fst
 let z5:List UInt64:=lay z4 z3 4 (0:UInt64)
 (gd [ok0 z0,decide (4<=List.length z3),decide ((4/1:Nat)+0<=List.length z4),decide (4<=List.length z5)] (.ok ⟨aat,(({w0:=List.getD z5 0 0,w1:=List.getD z5 1 0,w2:=List.getD z5 2 0,w3:=List.getD z5 3 0},(!z1.fst.snd.snd.fst==(0:UInt64),())),())⟩))
theorem aFY (ok0:dw->Bool) (g0_0:dw->mY) (x:akn) (Q:qs.Y->Prop):wpf te va (be 0 (cE Hh 0 ok0 (QY g0_0)) ax) 1000 Tryz.f119 (qs.inp.inj x).tm (qs.inp.inj x).hp (fnK qs afr Q) (λ_ _=>False)=(aoA ok0 g0_0 (x.1.1) (x.1.2.1)).wpR Q:=by kernel_rfl
theorem aoy (ok0:dw->Bool) (g0_0:dw->mY) (h0:∀ s:dw,ok0 s=true->∃ m e,aA (Hi) m s=some e/\(QY g0_0 s).run=some e) (pre:akn->Bool) (F:akn->OT qs.Y) (hF:∀ (x:akn) oy,pre x=true->(F x).run=some oy->(aoA ok0 g0_0 (x.1.1) (x.1.2.1)).run=some oy):aa Tryz.prog 119 (qs.aD pre F):=
 aB al pZ F7 (f:=119) (fn:=Tryz.f119) (c:=ak Tryz.f119) (by kernel_rfl) (by kernel_rfl) (by kernel_rfl) (S:=qs) (k:=0) (by kernel_rfl) (λR hR=>(aG (c:=(ak Tryz.f119)) (by kernel_rfl) (id:=0) (by kernel_rfl) (ba al pZ F7 (sh:=Hh) hR (xs:=aox) (aF (by kernel_rfl) (by kernel_rfl) hR) aN ae (n:=1000) (T:=Hi) (λs Q=>aBG s Q) (ok:=ok0) (f:=QY g0_0) h0) ae)) (n:=1000) (sel:=afr) (λv o h=>by cases h;rfl) (pre:=pre) (F:=F) (T:=λx=>aoA ok0 g0_0 (x.1.1) (x.1.2.1)) (λx Q=>aFY ok0 g0_0 x Q) hF
def Nw (a b:List UInt64) (k:Nat) (s:List UInt64×UInt64):List UInt64×UInt64:=(s.1.set k (vi (a.getD k 0) (b.getD k 0) s.2),xB (a.getD k 0) (b.getD k 0) s.2)
def aft (s:dw):Bool:=decide (s.1.2.2.2.2.1=0/\s.1.2.2.2.2.2.1=0/\s.2.1.length=4/\s.2.2.1.length=4/\s.2.2.2.2.1= [0,0,0,0])
def aoz (s:dw):mY:=(((),(),(upto (Nw s.2.1 s.2.2.1) ([0,0,0,0],0) 4).2,()),(s.2.2.2.1,(upto (Nw s.2.1 s.2.2.1) ([0,0,0,0],0) 4).1,()))
theorem aBI:∀ s:dw,aft s=true->∃ m e,aA Hi m s=some e/\(QY aoz s).run=some e:=by
 rintro ⟨⟨⟨⟩,⟨⟩,⟨⟩,⟨⟩,c,i,⟨⟩⟩,⟨c0,c1,c2,c3,⟨⟩⟩⟩ h
 have h':=of_decide_eq_true h
 dsimp only at h'
 obtain ⟨rfl,rfl,h0,h1,rfl⟩:=h'
 have:=(aR (T:=Hi) (λk s=>((((),(),(),(),s.2,(k:Int),()),(c0,c1,c2,s.1,())):dw)) (Nw c0 c1)
  (λs=>(⟨(.exit 0,xG),(((),(),s.2,()),(c2,s.1,()))⟩:aI)) 4 ([0,0,0,0],0) (λ_ s=>s.1.length=4/\s.2.toNat<=1) ⟨rfl,by decide⟩ (λk s hk hs=>⟨?_,?_⟩) (λs hs=> ?_)).1
 ·obtain ⟨m,hm⟩:=this
  exact ⟨m,_,hm,rfl⟩
 ·refine (OT.az (decide_eq_true (by dsimp only;omega))).trans ((aj ?_).trans ?_)
  ·simp only [Int.toNat_natCast,Nat.add_zero,h0,h1,hs.1,List.all_cons,List.all_nil,Bool.and_true,Bool.and_eq_true]
   exact ⟨aM (by omega),decide_eq_true (by omega),aM (by omega),decide_eq_true (by omega),decide_eq_true hs.2,aM (by omega),decide_eq_true (by omega),aL (by omega)⟩
  ·simp only [OT.cI,Int.toNat_natCast,Nat.add_zero]
   rfl
 ·exact ⟨by simp only [Nw,List.length_set];exact hs.1,DE hs.2⟩
 ·exact OT.aq (decide_eq_false (by dsimp only;omega))
theorem aFL (x y:List UInt64) (hx:x.length=4) (hy:y.length=4):lay x y 4 0=y:=vo hx hy
def afs (_:akn):Bool:=true
def aoB (x:akn):OT qs.Y:=.ok ⟨aat,(((oE x.1.1 x.1.2.1).1,((oE x.1.1 x.1.2.1).2,())),())⟩
theorem aBH:aa Tryz.prog 119 (qs.aD afs aoB):=aoy aft aoz aBI _ _ λx oy hp ho=>by
 rw [<-ho]
 clear ho
 obtain ⟨⟨a,b,⟨⟩⟩,⟨⟩⟩:=x
 obtain ⟨_,hw⟩:=NC a b
 refine (aj ?_).trans ?_
 ·simp only [List.all_cons,List.all_nil,Bool.and_true,Bool.and_eq_true]
  exact ⟨rfl,rfl,rfl,rfl⟩
 ·simp only [aoB,hw]
  rfl
def Hg:bw:=(qs.aD afs aoB)
theorem akm:aa Tryz.prog 119 Hg:=aBH
theorem akl:aC Hg:=ay
def QF:Env:=aw 119 Hg va
theorem Ai:aK Tryz.prog QF:=af akm pZ
theorem La:ar QF:=ab akl Bl
theorem QE:aO Tryz.prog te QF:=aE follows al Ai La
def qm:ap:=⟨[.val true .elem,.val true .elem],[],true,0,false⟩
abbrev akg:Type:=((ag)×(ag)×Unit)×(Unit)
def G9:Shape:=⟨29,[(2,.ptr 0 0 0),(3,.ptr 1 0 0),(4,.ptr 2 0 0),(6,.ptr 3 0 0),(7,.val false .u64),(9,.val false .int)],[(0,.row .u64),(1,.row .u64),(2,.row .u64),(3,.row .u64)],0,true⟩
abbrev dv:Type:=((Unit)×(Unit)×(Unit)×(Unit)×(UInt64)×(Int)×Unit)×((List (UInt64))×(List (UInt64))×(List (UInt64))×(List (UInt64))×Unit)
def xC:Shape:=⟨29,[(4,.ptr 0 0 0),(6,.ptr 1 0 0),(7,.val false .u64)],[(0,.row .u64),(1,.row .u64)],0,true⟩
abbrev mX:Type:=((Unit)×(Unit)×(UInt64)×Unit)×((List (UInt64))×(List (UInt64))×Unit)
def aoh:SE->Option Shape:=gI [(0,xC)] none
def aBB (a7:UInt64) (a9:Int) (c0:List (UInt64)) (c1:List (UInt64)) (c2:List (UInt64)) (c3:List (UInt64)):OT (Sum dv aI):=
 let z0:Bool:=inB a9 4
 let z1:UInt64:=List.getD c0 (Int.toNat a9+0) (0:UInt64)
 let z2:UInt64:=List.getD c1 (Int.toNat a9+0) (0:UInt64)
 (.br (decide (a9<(4:Int)))
 (gd [z0,decide (Int.toNat a9+0<List.length c0),z0,decide (Int.toNat a9+0<List.length c1),Dr ((z1,z2,a7,()),()),z0,decide (Int.toNat a9+0<List.length c3),inR (a9+(1:Int))] (.ok (.inl (((),((),((),((),(UJ z1 z2 a7,(a9+(1:Int),())))))),(c0,(c1,(c2,(List.set c3 (Int.toNat a9+0) (oO z1 z2 a7),()))))))))
 (.ok (.inr ⟨(.exit 0,xC),(((),((),(a7,()))),(c2,(c3,())))⟩)))
def Ha (s:dv):OT (Sum dv aI):=aBB (s.1.2.2.2.2.1) (s.1.2.2.2.2.2.1) (s.2.1) (s.2.2.1) (s.2.2.2.1) (s.2.2.2.2.1)
theorem aBy (s:dv) (Q:Sum dv aI->Prop):wps te QF ax 1000 (bg (ak Tryz.f125) 0) (G9.inj s) (cz G9 aoh (Q:Sum G9.T aI->Prop))=(Ha s).wpR Q:=by kernel_rfl
def QT (g0_0:dv->mX) (s:dv):OT aI:=(.ok ⟨(.exit 0,xC),g0_0 s⟩)
def aak:av:=⟨[.val true .elem,.val false .bool],[],false⟩
def afi:SV->Option av:=λ_=>some aak
def aok (ok0:dv->Bool) (g0_0:dv->mX) (a0:ag) (a1:ag):OT qm.Y:=
 let z0:(PUnit×PUnit×PUnit×PUnit×UInt64×Int×PUnit)×List UInt64×List UInt64×List UInt64×List UInt64×PUnit:=(((),(),(),(),(0:UInt64),(0:Int),()),[a0.w0,a0.w1,a0.w2,a0.w3],[a1.w0,a1.w1,a1.w2,a1.w3],[(0:UInt64),(0:UInt64),(0:UInt64),(0:UInt64)],[(0:UInt64),(0:UInt64),(0:UInt64),(0:UInt64)],())
 let z1:(PUnit×PUnit×UInt64×PUnit)×List UInt64×List UInt64×PUnit:=g0_0 z0
 let z2:=z1.snd
 let z3:=z2.snd.fst
 let z4:=z2.fst
 let z5:List UInt64:=lay z4 z3 4 (0:UInt64)
 (gd [ok0 z0,decide (4<=List.length z3),decide ((4/1:Nat)+0<=List.length z4),decide (4<=List.length z5)] (.ok ⟨aak,(({w0:=List.getD z5 0 0,w1:=List.getD z5 1 0,w2:=List.getD z5 2 0,w3:=List.getD z5 3 0},(!z1.fst.snd.snd.fst==(0:UInt64),())),())⟩))
theorem aFW (ok0:dv->Bool) (g0_0:dv->mX) (x:akg) (Q:qm.Y->Prop):wpf te QF (be 0 (cE G9 0 ok0 (QT g0_0)) ax) 1000 Tryz.f125 (qm.inp.inj x).tm (qm.inp.inj x).hp (fnK qm afi Q) (λ_ _=>False)=(aok ok0 g0_0 (x.1.1) (x.1.2.1)).wpR Q:=by kernel_rfl
theorem aoi (ok0:dv->Bool) (g0_0:dv->mX) (h0:∀ s:dv,ok0 s=true->∃ m e,aA (Ha) m s=some e/\(QT g0_0 s).run=some e) (pre:akg->Bool) (F:akg->OT qm.Y) (hF:∀ (x:akg) oy,pre x=true->(F x).run=some oy->(aok ok0 g0_0 (x.1.1) (x.1.2.1)).run=some oy):aa Tryz.prog 125 (qm.aD pre F):=
 aB al Ai QE (f:=125) (fn:=Tryz.f125) (c:=ak Tryz.f125) (by kernel_rfl) (by kernel_rfl) (by kernel_rfl) (S:=qm) (k:=0) (by kernel_rfl) (λR hR=>(aG (c:=(ak Tryz.f125)) (by kernel_rfl) (id:=0) (by kernel_rfl) (ba al Ai QE (sh:=G9) hR (xs:=aoh) (aF (by kernel_rfl) (by kernel_rfl) hR) aN ae (n:=1000) (T:=Ha) (λs Q=>aBy s Q) (ok:=ok0) (f:=QT g0_0) h0) ae)) (n:=1000) (sel:=afi) (λv o h=>by cases h;rfl) (pre:=pre) (F:=F) (T:=λx=>aok ok0 g0_0 (x.1.1) (x.1.2.1)) (λx Q=>aFW ok0 g0_0 x Q) hF
def vd (a b:List UInt64) (k:Nat) (s:List UInt64×UInt64):List UInt64×UInt64:=(s.1.set k (oO (a.getD k 0) (b.getD k 0) s.2),UJ (a.getD k 0) (b.getD k 0) s.2)
def afk (s:dv):Bool:=decide (s.1.2.2.2.2.1=0/\s.1.2.2.2.2.2.1=0/\s.2.1.length=4/\s.2.2.1.length=4/\s.2.2.2.2.1= [0,0,0,0])
def aoj (s:dv):mX:=(((),(),(upto (vd s.2.1 s.2.2.1) ([0,0,0,0],0) 4).2,()),(s.2.2.2.1,(upto (vd s.2.1 s.2.2.1) ([0,0,0,0],0) 4).1,()))
theorem aBA:∀ s:dv,afk s=true->∃ m e,aA Ha m s=some e/\(QT aoj s).run=some e:=by
 rintro ⟨⟨⟨⟩,⟨⟩,⟨⟩,⟨⟩,c,i,⟨⟩⟩,⟨c0,c1,c2,c3,⟨⟩⟩⟩ h
 have h':=of_decide_eq_true h
 dsimp only at h'
 obtain ⟨rfl,rfl,h0,h1,rfl⟩:=h'
 have:=(aR (T:=Ha) (λk s=>((((),(),(),(),s.2,(k:Int),()),(c0,c1,c2,s.1,())):dv)) (vd c0 c1)
  (λs=>(⟨(.exit 0,xC),(((),(),s.2,()),(c2,s.1,()))⟩:aI)) 4 ([0,0,0,0],0) (λ_ s=>s.1.length=4/\s.2.toNat<=1) ⟨rfl,by decide⟩ (λk s hk hs=>⟨?_,?_⟩) (λs hs=> ?_)).1
 ·obtain ⟨m,hm⟩:=this
  exact ⟨m,_,hm,rfl⟩
 ·refine (OT.az (decide_eq_true (by dsimp only;omega))).trans ((aj ?_).trans ?_)
  ·simp only [Int.toNat_natCast,Nat.add_zero,h0,h1,hs.1,List.all_cons,List.all_nil,Bool.and_true,Bool.and_eq_true]
   exact ⟨aM (by omega),decide_eq_true (by omega),aM (by omega),decide_eq_true (by omega),decide_eq_true hs.2,aM (by omega),decide_eq_true (by omega),aL (by omega)⟩
  ·simp only [OT.cI,Int.toNat_natCast,Nat.add_zero]
   rfl
 ·exact ⟨by simp only [vd,List.length_set];exact hs.1,vW⟩
 ·exact OT.aq (decide_eq_false (by dsimp only;omega))
def afj (_:akg):Bool:=true
def aol (x:akg):OT qm.Y:=.ok ⟨aak,(((ef x.1.1 x.1.2.1).1,((ef x.1.1 x.1.2.1).2,())),())⟩
theorem aBz:aa Tryz.prog 125 (qm.aD afj aol):=aoi afk aoj aBA _ _ λx oy hp ho=>by
 rw [<-ho]
 clear ho
 obtain ⟨⟨a,b,⟨⟩⟩,⟨⟩⟩:=x
 obtain ⟨_,hw⟩:=Bv a b
 refine (aj ?_).trans ?_
 ·simp only [List.all_cons,List.all_nil,Bool.and_true,Bool.and_eq_true]
  exact ⟨rfl,rfl,rfl,rfl⟩
 ·simp only [aol,hw]
  rfl
def G8:bw:=(qm.aD afj aol)
theorem akf:aa Tryz.prog 125 G8:=aBz
theorem ake:aC G8:=ay
def Zv:Env:=aw 125 G8 QF
theorem K5:aK Tryz.prog Zv:=af akf Ai
theorem K6:ar Zv:=ab ake La
theorem anR:aO Tryz.prog te Zv:=aE follows al K5 K6
def kt:ap:=⟨[.val true .elem,.val true .elem],[],true,0,false⟩
abbrev NI:Type:=((ag)×(ag)×Unit)×(Unit)
def QX:av:=⟨[.val false .bool],[],false⟩
def UU:SV->Option av:=λ_=>some QX
def aas (a0:ag) (a1:ag):OT kt.Y:=
 (.ok ⟨QX,(((ef a0 a1).snd,()),())⟩)
theorem aBF (x:NI) (Q:kt.Y->Prop):wpf te Zv ax 1000 Tryz.f86 (kt.inp.inj x).tm (kt.inp.inj x).hp (fnK kt UU Q) (λ_ _=>False)=(aas (x.1.1) (x.1.2.1)).wpR Q:=by kernel_rfl
theorem akk (pre:NI->Bool) (F:NI->OT kt.Y) (hF:∀ (x:NI) oy,pre x=true->(F x).run=some oy->(aas (x.1.1) (x.1.2.1)).run=some oy):aa Tryz.prog 86 (kt.aD pre F):=
 aB al K5 anR (f:=86) (fn:=Tryz.f86) (c:=ak Tryz.f86) (by kernel_rfl) (by kernel_rfl) (by kernel_rfl) (S:=kt) (k:=0) (by kernel_rfl) (λR hR=>ae) (n:=1000) (sel:=UU) (λv o h=>by cases h;rfl) (pre:=pre) (F:=F) (T:=λx=>aas (x.1.1) (x.1.2.1)) (λx Q=>aBF x Q) hF
def UW (_:NI):Bool:=true
def aow (x:NI):OT kt.Y:=.ok ⟨QX,((Nat.blt x.1.1.nat x.1.2.1.nat,()),())⟩
theorem avB:aa Tryz.prog 86 (kt.aD UW aow):=akk _ _ λx oy _ ho=>ho
def Bu:bw:=(kt.aD UW aow)
theorem aar:aa Tryz.prog 86 Bu:=avB
theorem aaq:aC Bu:=ay
def DG:Env:=aw 86 Bu Zv
theorem uR:aK Tryz.prog DG:=af aar K5
theorem Fg:ar DG:=ab aaq K6
theorem K9:aO Tryz.prog te DG:=aE follows al uR Fg
end Go.Proofs.YtohjofabochgfaaGreat

namespace Go.Proofs.YtohjofabochgfaaGreat
open Sx Go
theorem Gv (x b:UInt64) (hb:b.toNat<=1):2*x.toNat+b.toNat=(bH x 1|||b).toNat+18446744073709551616*(aZ x 63).toNat:=by
 have hx:=x.toNat_lt
 have e1:(bH x 1).toNat=2^1*(x.toNat%9223372036854775808):=by
  have e:(bH x 1).toNat=x.toNat*2^1%2^64:=kS x 1 (by omega)
  rw [e]
  omega
 have e2:(aZ x 63).toNat=x.toNat/2^63:=fm x 63 (by omega)
 have e3:=Nat.two_pow_add_eq_or_of_lt (i:=1) (b:=b.toNat) (by omega) (x.toNat%9223372036854775808)
 rw [UInt64.toNat_or,e1,<-e3,e2]
 omega
theorem HS (x:UInt64):(aZ x 63).toNat<=1:=by
 have hx:=x.toNat_lt
 have e2:(aZ x 63).toNat=x.toNat/2^63:=fm x 63 (by omega)
 rw [e2]
 omega
def aT (a:ag) (b:UInt64):ag×UInt64:=(⟨bH a.w0 1|||b,bH a.w1 1|||aZ a.w0 63,bH a.w2 1|||aZ a.w1 63,bH a.w3 1|||aZ a.w2 63⟩,aZ a.w3 63)
theorem ak2 (a:ag) (b:UInt64) (hb:b.toNat<=1):2*a.nat+b.toNat=(aT a b).1.nat+115792089237316195423570985008687907853269984665640564039457584007913129639936*(aT a b).2.toNat:=by
 have h0:=Gv a.w0 b hb
 have h1:=Gv a.w1 _ (HS a.w0)
 have h2:=Gv a.w2 _ (HS a.w1)
 have h3:=Gv a.w3 _ (HS a.w2)
 unfold aT Sx.ag.nat
 dsimp only
 omega
def Gz (m r:ag) (b:UInt64):ag:=cond (!((aT r b).2==0)) (ef (aT r b).1 m).1 (cond (!(ef (aT r b).1 m).2) (ef (aT r b).1 m).1 (aT r b).1)
theorem aiG {n m:Nat} (h1:m<=n) (h2:n<2*m):n-m=n%m:=by
 rw [Nat.mod_eq_sub_mod h1,Nat.mod_eq_of_lt (by omega)]
theorem ayj {m r:ag} {b:UInt64} (hb:b.toNat<=1) (hr:r.nat<m.nat):(Gz m r b).nat=(2*r.nat+b.toNat)%m.nat:=by
 have h:=ak2 r b hb
 have hm:=iQ m
 have hs:=iQ (aT r b).1
 have h2:(aT r b).2.toNat<=1:=HS _
 have hw:(ef (aT r b).1 m).1.nat=((aT r b).1.nat+115792089237316195423570985008687907853269984665640564039457584007913129639936-m.nat)%115792089237316195423570985008687907853269984665640564039457584007913129639936:=by
  unfold ef
  exact Sz _
 unfold Gz
 cases ho:(aT r b).2==0
 ·have ho:(aT r b).2.toNat=1:=by
   have:(aT r b).2.toNat≠0:=λe=>by
    have e':(aT r b).2=0:=UInt64.toNat_inj.1 e
    rw [e'] at ho
    cases ho
   omega
  show (ef (aT r b).1 m).1.nat=_
  rw [hw,<-aiG (n:=2*r.nat+b.toNat) (by omega) (by omega),Nat.mod_eq_of_lt (by omega)]
  omega
 ·have ho:(aT r b).2.toNat=0:=by
   rw [beq_iff_eq] at ho
   rw [ho]
   rfl
  have e:2*r.nat+b.toNat=(aT r b).1.nat:=by omega
  cases hu:(ef (aT r b).1 m).2
  ·have hu':m.nat<=(aT r b).1.nat:=by
    rw [afq] at hu
    exact Nat.le_of_not_lt λh'=>by rw [(Nat.blt_eq ..).mpr h'] at hu;cases hu
   show (ef (aT r b).1 m).1.nat=_
   rw [l9 hu',e,aiG hu' (by omega)]
  ·have hu':(aT r b).1.nat<m.nat:=by
    rw [afq] at hu
    exact (Nat.blt_eq ..).mp hu
   show (aT r b).1.nat=_
   rw [e,Nat.mod_eq_of_lt hu']
def MU (a:ag) (i:Nat):UInt64:=aZ ((lst a).getD (i/64) 0) ((i%64:Nat):Int)&&&1
theorem aj1 (a:ag) {i:Nat} (hi:i<256):(MU a i).toNat=a.nat/2^i%2:=by
 have e:∀ x:UInt64,(x&&&1).toNat=x.toNat%2:=λx=>by
  rw [UInt64.toNat_and]
  exact Nat.and_two_pow_sub_one_eq_mod x.toNat 1
 unfold MU
 rw [e,fm _ _ (by omega),uz (by omega) (by omega),show 64*(i/64)+i%64=i by omega]
def abH (m a r:ag):Nat->ag:=upto (λk r=>Gz m r (MU a (255-k))) r
theorem RH {m a r:ag} (hr:r.nat<m.nat):∀ k,k<=256->(abH m a r k).nat=(r.nat*2^k+a.nat/2^(256-k))%m.nat/\(abH m a r k).nat<m.nat
 |0,_=>by
  have h:=iQ a
  refine ⟨?_,hr⟩
  show r.nat=_
  rw [Nat.pow_zero,Nat.mul_one,Nat.div_eq_of_lt h,Nat.add_zero,Nat.mod_eq_of_lt hr]
 |k+1,hk=>by
  obtain ⟨h1,h2⟩:=RH (a:=a) hr k (by omega)
  have hb:=aj1 a (i:=255-k) (by omega)
  have hb1:(MU a (255-k)).toNat<=1:=by omega
  have h3:=ayj hb1 h2
  have e:(abH m a r (k+1)).nat=(2*(abH m a r k).nat+(MU a (255-k)).toNat)%m.nat:=h3
  have e2:a.nat/2^(255-k)=2*(a.nat/2^(256-k))+(MU a (255-k)).toNat:=by
   rw [hb,show 256-k=255-k+1 by omega,Nat.pow_succ,<-Nat.div_div_eq_div_mul]
   omega
  refine ⟨?_,?_⟩
  ·rw [e,h1,show 256-(k+1)=255-k by omega,e2,Nat.pow_succ]
   rw [<-Nat.mod_add_mod,Nat.mul_mod_mod,Nat.mod_add_mod]
   congr 1
   rw [Nat.mul_add,<-Nat.mul_assoc,Nat.mul_comm (2^k) 2,<-Nat.mul_assoc,Nat.mul_comm r.nat 2,Nat.add_assoc]
  ·rw [e]
   exact Nat.mod_lt _ (by omega)
def ayk (lo hi m:ag):ag:=ofN ((lo.nat+115792089237316195423570985008687907853269984665640564039457584007913129639936*hi.nat)%m.nat)
theorem ah4 {m lo hi:ag} (hm:0<m.nat):abH m lo (abH m hi ⟨0,0,0,0⟩ 256) 256=ayk lo hi m:=by
 have h0:(⟨0,0,0,0⟩:ag).nat<m.nat:=hm
 obtain ⟨h1,h2⟩:=RH (a:=hi) h0 256 (Nat.le_refl _)
 obtain ⟨h3,h4⟩:=RH (a:=lo) h2 256 (Nat.le_refl _)
 have hl:=iQ m
 refine ph ?_
 unfold ayk
 rw [h3,h1,jR (Nat.lt_trans (Nat.mod_lt _ hm) hl),show 256-256=0 from rfl,Nat.pow_zero,Nat.div_one,Nat.div_one,show (⟨0,0,0,0⟩:ag).nat=0 from rfl,Nat.zero_mul,Nat.zero_add,<-Nat.mod_add_mod,Nat.mod_mul_mod,Nat.mod_add_mod,Nat.mul_comm,Nat.add_comm]
end Go.Proofs.YtohjofabochgfaaGreat

namespace Go.Proofs.YtohjofabochgfaaGreat
open Sx Go
set_option maxRecDepth 100000
def gJ:ap:=⟨[.val true .elem,.val false .u64],[],true,0,false⟩
abbrev Bq:Type:=((ag)×(UInt64)×Unit)×(Unit)
def qn:Shape:=⟨25,[(1,.val false .u64),(2,.ptr 0 0 0),(4,.ptr 1 0 0),(7,.val false .int)],[(0,.row .u64),(1,.row .u64)],0,true⟩
abbrev cb:Type:=((UInt64)×(Unit)×(Unit)×(Int)×Unit)×((List (UInt64))×(List (UInt64))×Unit)
def oF:Shape:=⟨25,[(1,.val false .u64),(2,.ptr 0 0 0),(4,.ptr 1 0 0)],[(0,.row .u64),(1,.row .u64)],0,true⟩
abbrev jm:Type:=((UInt64)×(Unit)×(Unit)×Unit)×((List (UInt64))×(List (UInt64))×Unit)
def UN:SE->Option Shape:=gI [(0,oF)] none
def aop (a1:UInt64) (a7:Int) (c0:List (UInt64)) (c1:List (UInt64)):OT (Sum cb aI):=
 let z0:Bool:=inB a7 4
 let z1:Bool:=decide (Int.toNat a7+0<List.length c0)
 let z2:UInt64:=List.getD c0 (Int.toNat a7+0) (0:UInt64)
 (.br (decide (a7<(4:Int)))
 (gd [z0,z1,z0,z1,z0,z1,inR (a7+(1:Int))] (.ok (.inl ((aZ z2 (63:Int),((),((),(a7+(1:Int),())))),(List.set c0 (Int.toNat a7+0) (bH z2 (1:Int)|||a1),(c1,()))))))
 (.ok (.inr ⟨(.exit 0,oF),((a1,((),((),()))),(c0,(c1,())))⟩)))
def qo (s:cb):OT (Sum cb aI):=aop (s.1.1) (s.1.2.2.2.1) (s.2.1) (s.2.2.1)
theorem aom (s:cb) (Q:Sum cb aI->Prop):wps te DG ax 1000 (bg (ak Tryz.f147) 0) (qn.inj s) (cz qn UN (Q:Sum qn.T aI->Prop))=(qo s).wpR Q:=by kernel_rfl
def xD (g0_0:cb->jm) (s:cb):OT aI:=(.ok ⟨(.exit 0,oF),g0_0 s⟩)
def Hb:av:=⟨[.val true .elem,.val false .u64],[],false⟩
def ND:SV->Option av:=λ_=>some Hb
def QU (ok0:cb->Bool) (g0_0:cb->jm) (a0:ag) (a1:UInt64):OT gJ.Y:=
 let z0:(UInt64×PUnit×PUnit×Int×PUnit)×List UInt64×List UInt64×PUnit:=((a1,(),(),(0:Int),()),[a0.w0,a0.w1,a0.w2,a0.w3],[(0:UInt64),(0:UInt64),(0:UInt64),(0:UInt64)],())
 let z1:(UInt64×PUnit×PUnit×PUnit)×List UInt64×List UInt64×PUnit:=g0_0 z0
 let z2:=z1.snd
 let z3:=z2.fst
 let z4:=z2.snd.fst
 let z5:List UInt64:=lay z4 z3 4 (0:UInt64)
 (gd [ok0 z0,decide (4<=List.length z3),decide ((4/1:Nat)+0<=List.length z4),decide (4<=List.length z5)] (.ok ⟨Hb,(({w0:=List.getD z5 0 0,w1:=List.getD z5 1 0,w2:=List.getD z5 2 0,w3:=List.getD z5 3 0},(z1.fst.fst,())),())⟩))
theorem avw (ok0:cb->Bool) (g0_0:cb->jm) (x:Bq) (Q:gJ.Y->Prop):wpf te DG (be 0 (cE qn 0 ok0 (xD g0_0)) ax) 1000 Tryz.f147 (gJ.inp.inj x).tm (gJ.inp.inj x).hp (fnK gJ ND Q) (λ_ _=>False)=(QU ok0 g0_0 (x.1.1) (x.1.2.1)).wpR Q:=by kernel_rfl
theorem aal (ok0:cb->Bool) (g0_0:cb->jm) (h0:∀ s:cb,ok0 s=true->∃ m e,aA (qo) m s=some e/\(xD g0_0 s).run=some e) (pre:Bq->Bool) (F:Bq->OT gJ.Y) (hF:∀ (x:Bq) oy,pre x=true->(F x).run=some oy->(QU ok0 g0_0 (x.1.1) (x.1.2.1)).run=some oy):aa Tryz.prog 147 (gJ.aD pre F):=
 aB al uR K9 (f:=147) (fn:=Tryz.f147) (c:=ak Tryz.f147) (by kernel_rfl) (by kernel_rfl) (by kernel_rfl) (S:=gJ) (k:=0) (by kernel_rfl) (λR hR=>(aG (c:=(ak Tryz.f147)) (by kernel_rfl) (id:=0) (by kernel_rfl) (ba al uR K9 (sh:=qn) hR (xs:=UN) (aF (by kernel_rfl) (by kernel_rfl) hR) aN ae (n:=1000) (T:=qo) (λs Q=>aom s Q) (ok:=ok0) (f:=xD g0_0) h0) ae)) (n:=1000) (sel:=ND) (λv o h=>by cases h;rfl) (pre:=pre) (F:=F) (T:=λx=>QU ok0 g0_0 (x.1.1) (x.1.2.1)) (λx Q=>avw ok0 g0_0 x Q) hF
def aHU (k:Nat) (s:List UInt64×UInt64):List UInt64×UInt64:=(s.1.set k (bH (s.1.getD k 0) 1|||s.2),aZ (s.1.getD k 0) 63)
def NF (s:cb):Bool:=decide (s.1.2.2.2.1=0/\s.2.1.length=4)
def UQ (s:cb):jm:=(((upto aHU (s.2.1,s.1.1) 4).2,(),(),()),((upto aHU (s.2.1,s.1.1) 4).1,s.2.2.1,()))
theorem aoo:∀ s:cb,NF s=true->∃ m e,aA qo m s=some e/\(xD UQ s).run=some e:=by
 rintro ⟨⟨b,⟨⟩,⟨⟩,i,⟨⟩⟩,⟨a,r,⟨⟩⟩⟩ h
 have h':=of_decide_eq_true h
 dsimp only at h'
 obtain ⟨rfl,hl⟩:=h'
 have:=(aR (T:=qo) (λk s=>(((s.2,(),(),(k:Int),()),(s.1,r,())):cb)) aHU
  (λs=>(⟨(.exit 0,oF),((s.2,(),(),()),(s.1,r,()))⟩:aI)) 4 (a,b) (λ_ s=>s.1.length=4) hl (λk s hk hs=>⟨?_,(List.length_set ..).trans hs⟩) (λs hs=> ?_)).1
 ·obtain ⟨m,hm⟩:=this
  exact ⟨m,_,hm,rfl⟩
 ·refine (OT.az (decide_eq_true (by dsimp only;omega))).trans ((aj ?_).trans ?_)
  ·simp only [Int.toNat_natCast,Nat.add_zero,hs,List.all_cons,List.all_nil,Bool.and_true,Bool.and_eq_true]
   exact ⟨aM (by omega),decide_eq_true (by omega),aM (by omega),decide_eq_true (by omega),aM (by omega),decide_eq_true (by omega),aL (by omega)⟩
  ·simp only [OT.cI,Int.toNat_natCast,Nat.add_zero]
   rfl
 ·exact OT.aq (decide_eq_false (by dsimp only;omega))
def NE (_:Bq):Bool:=true
def afl (x:Bq):OT gJ.Y:=.ok ⟨Hb,(((aT x.1.1 x.1.2.1).1,((aT x.1.1 x.1.2.1).2,())),())⟩
theorem aon:aa Tryz.prog 147 (gJ.aD NE afl):=aal NF UQ aoo _ _ λx oy hp ho=>by
 rw [<-ho]
 clear ho
 obtain ⟨⟨a,b,⟨⟩⟩,⟨⟩⟩:=x
 refine (aj ?_).trans rfl
 simp only [List.all_cons,List.all_nil,Bool.and_true,Bool.and_eq_true]
 exact ⟨rfl,rfl,rfl,rfl⟩
def vL:bw:=(gJ.aD NE afl)
theorem UP:aa Tryz.prog 147 vL:=aon
theorem UO:aC vL:=ay
def uQ:Env:=aw 147 vL DG
theorem pN:aK Tryz.prog uQ:=af UP uR
theorem Ah:ar uQ:=ab UO Fg
theorem Ff:aO Tryz.prog te uQ:=aE follows al pN Ah
def p9:ap:=⟨[.val true .elem,.val true .elem,.val true .elem],[],true,0,false⟩
abbrev akj:Type:=((ag)×(ag)×(ag)×Unit)×(Unit)
def Hd:Shape:=⟨57,[(5,.ptr 0 0 0),(6,.ptr 1 0 0),(8,.ptr 2 0 0),(10,.ptr 3 0 0),(11,.val false .int),(21,.val true (.arr 2 .elem)),(22,.val false .int)],[(0,.row .u64),(1,.row .u64),(2,.row .u64),(3,.row .u64)],0,true⟩
abbrev cW:Type:=((Unit)×(Unit)×(Unit)×(Unit)×(Int)×(List (ag))×(Int)×Unit)×((List (UInt64))×(List (UInt64))×(List (UInt64))×(List (UInt64))×Unit)
def xE:Shape:=⟨57,[(5,.ptr 0 0 0),(6,.ptr 1 0 0),(8,.ptr 2 0 0),(21,.val true (.arr 2 .elem)),(22,.val false .int)],[(0,.row .u64),(1,.row .u64),(2,.row .u64)],0,true⟩
abbrev ke:Type:=((Unit)×(Unit)×(Unit)×(List (ag))×(Int)×Unit)×((List (UInt64))×(List (UInt64))×(List (UInt64))×Unit)
def aoq:SE->Option Shape:=gI [(2,xE)] none
def aao (a11:Int) (a21:List (ag)) (a22:Int) (c0:List (UInt64)) (c1:List (UInt64)) (c2:List (UInt64)) (c3:List (UInt64)):OT (Sum cW aI):=
 let z0:Nat:=List.length c2
 let z1:Int:=Int.tdiv a11 (64:Int)
 let z2:Int:=Int.tmod a11 (64:Int)
 let z3:ag×UInt64:=aT {w0:=List.getD c2 0 0,w1:=List.getD c2 1 0,w2:=List.getD c2 2 0,w3:=List.getD c2 3 0} (aZ (List.getD c3 (Int.toNat z1+0) (0:UInt64)) z2&&&(1:UInt64))
 let z4:=z3.fst
 let z5:List UInt64:=List.set (List.set (List.set (List.set c2 0 z4.w0) 1 z4.w1) 2 z4.w2) 3 z4.w3
 let z6:Nat:=List.length z5
 let z7:Bool:=decide ((4/1:Nat)+0<=z6)
 let z8:Bool:=inR (a11-(1:Int))
 let z9:ag:= {w0:=0,w1:=0,w2:=0,w3:=0}
 let z10:ag×Bool:=ef {w0:=List.getD z5 0 0,w1:=List.getD z5 1 0,w2:=List.getD z5 2 0,w3:=List.getD z5 3 0} {w0:=List.getD c0 0 0,w1:=List.getD c0 1 0,w2:=List.getD c0 2 0,w3:=List.getD c0 3 0}
 let z11:=z10.fst
 let z12:List UInt64:=List.set (List.set (List.set (List.set z5 0 z11.w0) 1 z11.w1) 2 z11.w2) 3 z11.w3
 (.br (decide ((0:Int)<=a11))
 (gd [decide (4<=z0),true&&inR z1,inB z1 4,decide (Int.toNat z1+0<List.length c3),decide ((0:Int)<=z2),decide ((4/1:Nat)+0<=z0),decide (4<=z6),decide (4<=List.length c0)] (.br (!z3.snd==(0:UInt64))
  (gd [z7,z8] (.ok (.inl (((),((),((),((),(a11-(1:Int),([List.getD a21 0 z9,List.getD a21 1 z9],(a22,()))))))),(c0,(c1,(z12,(c3,()))))))))
  (.br (!z10.snd)
   (gd [z7,z8] (.ok (.inl (((),((),((),((),(a11-(1:Int),([List.getD a21 0 z9,List.getD a21 1 z9],(a22,()))))))),(c0,(c1,(z12,(c3,()))))))))
   (gd [z8] (.ok (.inl (((),((),((),((),(a11-(1:Int),([List.getD a21 0 z9,List.getD a21 1 z9],(a22,()))))))),(c0,(c1,(z5,(c3,())))))))))))
 (.ok (.inr ⟨(.exit 2,xE),(((),((),((),([List.getD a21 0 z9,List.getD a21 1 z9],(a22,()))))),(c0,(c1,(c2,()))))⟩)))
def He (s:cW):OT (Sum cW aI):=aao (s.1.2.2.2.2.1) (s.1.2.2.2.2.2.1) (s.1.2.2.2.2.2.2.1) (s.2.1) (s.2.2.1) (s.2.2.2.1) (s.2.2.2.2.1)
theorem aBC (s:cW) (Q:Sum cW aI->Prop):wps te uQ ax 1000 (bg (ak Tryz.f111) 2) (Hd.inj s) (cz Hd aoq (Q:Sum Hd.T aI->Prop))=(He s).wpR Q:=by kernel_rfl
def QW (g2_2:cW->ke) (s:cW):OT aI:=(.ok ⟨(.exit 2,xE),(((g2_2 s).1.1,((g2_2 s).1.2.1,((g2_2 s).1.2.2.1,(s.1.2.2.2.2.2.1,(s.1.2.2.2.2.2.2.1,()))))),(g2_2 s).2)⟩)
def Br:av:=⟨[.val true .elem,.val false .int],[],false⟩
def afm:SV->Option av:=λ_=>some Br
def NG (ok2:cW->Bool) (g2_2:cW->ke) (a0:ag) (a1:ag) (a2:ag):OT p9.Y:=
 let z0:(PUnit×PUnit×PUnit×PUnit×Int×List ag×Int×PUnit)×List UInt64×List UInt64×List UInt64×List UInt64×PUnit:=(((),(),(),(),(255:Int),[a1,a0],(0:Int),()),[a2.w0,a2.w1,a2.w2,a2.w3],[(0:UInt64),(0:UInt64),(0:UInt64),(0:UInt64)],[(0:UInt64),(0:UInt64),(0:UInt64),(0:UInt64)],[a1.w0,a1.w1,a1.w2,a1.w3],())
 let z1:=(g2_2 z0).snd
 let z2:=z1.snd
 let z3:(PUnit×PUnit×PUnit×PUnit×Int×List ag×Int×PUnit)×List UInt64×List UInt64×List UInt64×List UInt64×PUnit:=(((),(),(),(),(255:Int),[a1,a0],(0:Int)+(1:Int),()),z1.fst,z2.fst,z2.snd.fst,[a0.w0,a0.w1,a0.w2,a0.w3],())
 let z4:=(g2_2 z3).snd.snd
 let z5:=z4.snd.fst
 let z6:=z4.fst
 let z7:List UInt64:=lay z6 z5 4 (0:UInt64)
 (.br (a2.w0==(0:UInt64)&&(a2.w1==(0:UInt64)&&(a2.w2==(0:UInt64)&&(a2.w3==(0:UInt64)&&true))))
 (.ok ⟨Br,(({w0:=0,w1:=0,w2:=0,w3:=0},((10:Int),())),())⟩)
 (gd [ok2 z0,ok2 z3,decide (4<=List.length z5),decide ((4/1:Nat)+0<=List.length z6),decide (4<=List.length z7)] (.ok ⟨Br,(({w0:=List.getD z7 0 0,w1:=List.getD z7 1 0,w2:=List.getD z7 2 0,w3:=List.getD z7 3 0},((0:Int),())),())⟩)))
theorem aFX (ok2:cW->Bool) (g2_2:cW->ke) (x:akj) (Q:p9.Y->Prop):wpf te uQ (be 2 (cE Hd 2 ok2 (QW g2_2)) ax) 1000 Tryz.f111 (p9.inp.inj x).tm (p9.inp.inj x).hp (fnK p9 afm Q) (λ_ _=>False)=(NG ok2 g2_2 (x.1.1) (x.1.2.1) (x.1.2.2.1)).wpR Q:=by kernel_rfl
theorem aor (ok2:cW->Bool) (g2_2:cW->ke) (h2:∀ s:cW,ok2 s=true->∃ m e,aA (He) m s=some e/\(QW g2_2 s).run=some e) (pre:akj->Bool) (F:akj->OT p9.Y) (hF:∀ (x:akj) oy,pre x=true->(F x).run=some oy->(NG ok2 g2_2 (x.1.1) (x.1.2.1) (x.1.2.2.1)).run=some oy):aa Tryz.prog 111 (p9.aD pre F):=
 aB al pN Ff (f:=111) (fn:=Tryz.f111) (c:=ak Tryz.f111) (by kernel_rfl) (by kernel_rfl) (by kernel_rfl) (S:=p9) (k:=0) (by kernel_rfl) (λR hR=>(aG (c:=(ak Tryz.f111)) (by kernel_rfl) (id:=2) (by kernel_rfl) (ba al pN Ff (sh:=Hd) hR (xs:=aoq) (aF (by kernel_rfl) (by kernel_rfl) hR) aN ae (n:=1000) (T:=He) (λs Q=>aBC s Q) (ok:=ok2) (f:=QW g2_2) h2) ae)) (n:=1000) (sel:=afm) (λv o h=>by cases h;rfl) (pre:=pre) (F:=F) (T:=λx=>NG ok2 g2_2 (x.1.1) (x.1.2.1) (x.1.2.2.1)) (λx Q=>aFX ok2 g2_2 x Q) hF
def QV (s:cW):Bool:=decide (s.1.2.2.2.2.1=255/\s.1.2.2.2.2.2.1.length=2/\s.2.1.length=4/\s.2.2.2.1.length=4/\s.2.2.2.2.1.length=4)
def aan (s:cW):ke:=(((),(),(),s.1.2.2.2.2.2.1,s.1.2.2.2.2.2.2.1,()),(s.2.1,s.2.2.1,lst (abH (elemOf s.2.1) (elemOf s.2.2.2.2.1) (elemOf s.2.2.2.1) 256),()))
theorem aHX (i:Nat):Int.tdiv (i:Int) 64=((i/64:Nat):Int):=by rw [Int.tdiv_eq_ediv_of_nonneg (by omega)];omega
theorem aHY (i:Nat):Int.tmod (i:Int) 64=((i%64:Nat):Int):=by rw [Int.tmod_eq_emod_of_nonneg (by omega)];omega
theorem aBE:∀ s:cW,QV s=true->∃ m e,aA He m s=some e/\(QW aan s).run=some e:=by
 rintro ⟨⟨⟨⟩,⟨⟩,⟨⟩,⟨⟩,i,arr,j,⟨⟩⟩,⟨c0,c1,c2,c3,⟨⟩⟩⟩ h
 have h':=of_decide_eq_true h
 dsimp only at h'
 obtain ⟨rfl,ha,h0,h2,h3⟩:=h'
 obtain ⟨x,y,rfl⟩:∃ x y,arr= [x,y]:=by
  match arr,ha with
  | [x,y],_=>exact ⟨x,y,rfl⟩
 obtain ⟨m,rfl⟩:∃ a,c0=lst a:=⟨elemOf c0,(aP h0).symm⟩
 obtain ⟨r,rfl⟩:∃ a,c2=lst a:=⟨elemOf c2,(aP h2).symm⟩
 obtain ⟨t,rfl⟩:∃ a,c3=lst a:=⟨elemOf c3,(aP h3).symm⟩
 have:=(aR (T:=He) (λk r=>((((),(),(),(),(255:Int)-(k:Int),[x,y],j,()),(lst m,c1,lst r,lst t,())):cW)) (λk r=>Gz m r (MU t (255-k)))
  (λr=>(⟨(.exit 2,xE),(((),(),(),[x,y],j,()),(lst m,c1,lst r,()))⟩:aI)) 256 r (λ_ _=>True) trivial (λk r hk _=>⟨?_,trivial⟩) (λr _=> ?_)).1
 ·obtain ⟨n,hn⟩:=this
  exact ⟨n,_,hn,rfl⟩
 ·have e0:(255:Int)-(k:Int)=((255-k:Nat):Int):=by omega
  have e1:(255:Int)-((k+1:Nat):Int)=((255-k:Nat):Int)-1:=by omega
  have hb:aZ ((lst t).getD ((255-k)/64) 0) (((255-k)%64:Nat):Int)&&&1=MU t (255-k):=rfl
  rw [e1,e0]
  show (aao ((255-k:Nat):Int) [x,y] j (lst m) c1 (lst r) (lst t)).run=some (.inl (((),(),(),(),((255-k:Nat):Int)-1,[x,y],j,()),(lst m,c1,lst (Gz m r (MU t (255-k))),lst t,())))
  unfold aao
  simp only [aHX,aHY,Int.toNat_natCast,Nat.add_zero,hb]
  refine (OT.az (decide_eq_true (by omega))).trans ((aj ?_).trans ?_)
  ·simp only [List.all_cons,List.all_nil,Bool.and_true,Bool.true_and,Bool.and_eq_true]
   have hl:∀ a:ag,(lst a).length=4:=λ_=>rfl
   exact ⟨rfl,aL (by omega),aM (by omega),decide_eq_true (by rw [hl];omega),decide_eq_true (by omega),rfl,rfl,rfl⟩
  ·have hr:inR (((255-k:Nat):Int)-1)=true:=aL (by omega)
   rcases (Bool.eq_false_or_eq_true ((aT r (MU t (255-k))).2==0)).symm with g|g
   ·have e:Gz m r (MU t (255-k))=(ef (aT r (MU t (255-k))).1 m).1:=by unfold Gz;rw [g];rfl
    rw [e]
    exact (OT.az (b:= !((aT r (MU t (255-k))).2==0)) (by rw [g];rfl)).trans ((aj (by rw [hr];rfl)).trans rfl)
   ·refine (OT.aq (b:= !((aT r (MU t (255-k))).2==0)) (by rw [g];rfl)).trans ?_
    rcases (Bool.eq_false_or_eq_true (ef (aT r (MU t (255-k))).1 m).2).symm with u|u
    ·have e:Gz m r (MU t (255-k))=(ef (aT r (MU t (255-k))).1 m).1:=by unfold Gz;rw [g,u];rfl
     rw [e]
     exact (OT.az (b:= !(ef (aT r (MU t (255-k))).1 m).2) (by rw [u];rfl)).trans ((aj (by rw [hr];rfl)).trans rfl)
    ·have e:Gz m r (MU t (255-k))=(aT r (MU t (255-k))).1:=by unfold Gz;rw [g,u];rfl
     rw [e]
     exact (OT.aq (b:= !(ef (aT r (MU t (255-k))).1 m).2) (by rw [u];rfl)).trans ((aj (by rw [hr];rfl)).trans rfl)
 ·exact OT.aq (decide_eq_false (by dsimp only;omega))
def afn (_:akj):Bool:=true
def mu (m:ag):Bool:=m.w0==0&&(m.w1==0&&(m.w2==0&&(m.w3==0&&true)))
def aAC (x:akj):OT p9.Y:=.br (mu x.1.2.2.1) (.ok ⟨Br,((⟨0,0,0,0⟩,((10:Int),())),())⟩) (.ok ⟨Br,((ayk x.1.1 x.1.2.1 x.1.2.2.1,((0:Int),())),())⟩)
theorem Pp {m:ag} (h:mu m=false):0<m.nat:=by
 refine Nat.pos_of_ne_zero λe=> ?_
 have e2:m=⟨0,0,0,0⟩:=ph e
 rw [e2] at h
 cases h
theorem aos {ok2:cW->Bool} {g2:cW->ke} {a b m H R:ag} (h:mu m=false)
 (h1:ok2 (((),(),(),(),255,[b,a],0,()),(lst m,lst ⟨0,0,0,0⟩,lst ⟨0,0,0,0⟩,lst b,()))=true)
 (e1:(g2 (((),(),(),(),255,[b,a],0,()),(lst m,lst ⟨0,0,0,0⟩,lst ⟨0,0,0,0⟩,lst b,()))).2=(lst m,lst ⟨0,0,0,0⟩,lst H,()))
 (h2:ok2 (((),(),(),(),255,[b,a],0+1,()),(lst m,lst ⟨0,0,0,0⟩,lst H,lst a,()))=true)
 (e2:(g2 (((),(),(),(),255,[b,a],0+1,()),(lst m,lst ⟨0,0,0,0⟩,lst H,lst a,()))).2=(lst m,lst ⟨0,0,0,0⟩,lst R,())):
 (NG ok2 g2 a b m).run=some ⟨Br,((R,((0:Int),())),())⟩:=by
 have l:∀ e:ag,lst e= [e.w0,e.w1,e.w2,e.w3]:=λ_=>rfl
 rw [l m,l ⟨0,0,0,0⟩] at h1 e1 h2 e2
 rw [l b] at h1 e1
 rw [l a] at h2 e2
 unfold NG
 simp only [e1,h1,e2,h2]
 exact (OT.aq h).trans ((aj rfl).trans rfl)
theorem aBD:aa Tryz.prog 111 (p9.aD afn aAC):=aor QV aan aBE _ _ λx oy hp ho=>by
 rw [<-ho]
 clear ho
 obtain ⟨⟨a,b,m,⟨⟩⟩,⟨⟩⟩:=x
 show (NG QV aan a b m).run=(OT.br (mu m) _ _:OT p9.Y).run
 rcases (Bool.eq_false_or_eq_true (mu m)).symm with h|h
 ·refine Eq.trans (aos (H:=abH m b ⟨0,0,0,0⟩ 256) (R:=abH m a (abH m b ⟨0,0,0,0⟩ 256) 256) h rfl rfl rfl rfl) ?_
  rw [ah4 (Pp h)]
  rw [h]
  rfl
 ·exact (OT.az h).trans (OT.az (b:=mu m) h).symm
def Hc:bw:=(p9.aD afn aAC)
theorem aki:aa Tryz.prog 111 Hc:=aBD
theorem akh:aC Hc:=ay
def Zw:Env:=aw 111 Hc uQ
theorem K7:aK Tryz.prog Zw:=af aki pN
theorem K8:ar Zw:=ab akh Ah
theorem anS:aO Tryz.prog te Zw:=aE follows al K7 K8
def J3:ap:=⟨[.val false .int],[],true,0,false⟩
abbrev aFQ:Type:=((Int)×Unit)×(Unit)
def E4:av:=⟨[.val true (.prod .elem (.prod .int (.prod .u64 (.prod .u64 .elem)))),.val false .int],[],false⟩
def atr:SV->Option av:=λ_=>some E4
def aET (a0:Int):OT J3.Y:=
 let z0:ag:= {w0:=0,w1:=0,w2:=0,w3:=0}
 let z1:UInt64×ag:=((0:UInt64),z0)
 (.br (a0==(0:Int))
 (.ok ⟨E4,((({w0:=16513537,w1:=0,w2:=0,w3:=0},(9:Int),(16513537:UInt64),z1),((0:Int),())),())⟩)
 (.br (a0==(1:Int))
  (.ok ⟨E4,((({w0:=16521217,w1:=0,w2:=0,w3:=0},(11:Int),(16521217:UInt64),z1),((0:Int),())),())⟩)
  (.br (a0==(2:Int))
   (.ok ⟨E4,((({w0:=11037532056220336129,w1:=2469829653914515739,w2:=0,w3:=4611686018427387904},(32:Int),(0:UInt64),(11037532056220336127:UInt64),{w0:=10122100416058490895,w1:=15551789045973377255,w2:=8617542898466512152,w3:=679271340751763220}),((0:Int),())),())⟩)
   (.br (a0==(3:Int))
    (.ok ⟨E4,((({w0:=10108024940646105089,w1:=2469829653919213789,w2:=0,w3:=4611686018427387904},(32:Int),(0:UInt64),(10108024940646105087:UInt64),{w0:=18200867980676431887,w1:=7474641938123724515,w2:=9200329640471491984,w3:=679271340771891881}),((0:Int),())),())⟩)
    (.ok ⟨E4,(((z0,(0:Int),(0:UInt64),z1),((20:Int),())),())⟩)))))
theorem aH6 (x:aFQ) (Q:J3.Y->Prop):wpf te Zw ax 1000 Tryz.f76 (J3.inp.inj x).tm (J3.inp.inj x).hp (fnK J3 atr Q) (λ_ _=>False)=(aET (x.1.1)).wpR Q:=by kernel_rfl
theorem azC (pre:aFQ->Bool) (F:aFQ->OT J3.Y) (hF:∀ (x:aFQ) oy,pre x=true->(F x).run=some oy->(aET (x.1.1)).run=some oy):aa Tryz.prog 76 (J3.aD pre F):=
 aB al K7 anS (f:=76) (fn:=Tryz.f76) (c:=ak Tryz.f76) (by kernel_rfl) (by kernel_rfl) (by kernel_rfl) (S:=J3) (k:=0) (by kernel_rfl) (λR hR=>ae) (n:=1000) (sel:=atr) (λv o h=>by cases h;rfl) (pre:=pre) (F:=F) (T:=λx=>aET (x.1.1)) (λx Q=>aH6 x Q) hF
abbrev Nx:Type:=ag×Int×UInt64×UInt64×ag
def aGR:Nx:=(⟨0,0,0,0⟩,0,0,0,⟨0,0,0,0⟩)
def aS:Nat->Nx
 |0=>(⟨16513537,0,0,0⟩,9,16513537,0,⟨0,0,0,0⟩)
 |1=>(⟨16521217,0,0,0⟩,11,16521217,0,⟨0,0,0,0⟩)
 |2=>(⟨11037532056220336129,2469829653914515739,0,4611686018427387904⟩,32,0,11037532056220336127,⟨10122100416058490895,15551789045973377255,8617542898466512152,679271340751763220⟩)
 |3=>(⟨10108024940646105089,2469829653919213789,0,4611686018427387904⟩,32,0,10108024940646105087,⟨18200867980676431887,7474641938123724515,9200329640471491984,679271340771891881⟩)
 |_=>aGR
def au (s:Int):Bool:=decide (0<=s)&&decide (s<4)
theorem ca {s:Int} (h:au s=true):s=0\/s=1\/s=2\/s=3:=by
 simp only [au,Bool.and_eq_true,decide_eq_true_eq] at h
 omega
theorem tn {s:Int} (h:au s=false):(s==0)=false/\(s==1)=false/\(s==2)=false/\(s==3)=false:=by
 have hn:∀ k:Int,0<=k->k<4->(s==k)=false:=λk h0 h1=>by
  cases hb:s==k
  ·rfl
  ·have:s=k:=by simpa using hb
   subst this
   simp only [au,decide_eq_true h0,decide_eq_true h1,Bool.and_self] at h
   cases h
 exact ⟨hn 0 (by decide) (by decide),hn 1 (by decide) (by decide),hn 2 (by decide) (by decide),hn 3 (by decide) (by decide)⟩
def ats (_:aFQ):Bool:=true
def aHb (x:aFQ):OT J3.Y:=.br (au x.1.1) (.ok ⟨E4,((aS x.1.1.toNat,((0:Int),())),())⟩) (.ok ⟨E4,((aGR,((20:Int),())),())⟩)
theorem aHa:aa Tryz.prog 76 (J3.aD ats aHb):=azC _ _ λx oy _ ho=>by
 rw [<-ho]
 clear ho
 obtain ⟨⟨s,⟨⟩⟩,⟨⟩⟩:=x
 cases hs:au s
 ·obtain ⟨h0,h1,h2,h3⟩:=tn hs
  exact (OT.aq h0).trans ((OT.aq h1).trans ((OT.aq h2).trans ((OT.aq h3).trans (OT.aq (b:=au s) hs).symm)))
 ·rcases ca hs with h|h|h|h
  all_goals
   have h:s=_:=h
   subst h
   rfl
theorem ax5 (c:Int):au c=(!decide (c<0)&& !decide (3<c)):=by
 rw [Bool.eq_iff_iff]
 simp only [au,Bool.and_eq_true,decide_eq_true_eq,Bool.not_eq_true',decide_eq_false_iff_not]
 omega
def Tc:bw:=(J3.aD ats aHb)
theorem att:aa Tryz.prog 76 Tc:=aHa
theorem atq:aC Tc:=ay
def avn:Env:=aw 76 Tc Zw
theorem Uz:aK Tryz.prog avn:=af att K7
theorem QI:ar avn:=ab atq K8
theorem avm:aO Tryz.prog te avn:=aE follows al Uz QI
def rU:ap:=⟨[.val false .int],[],true,0,false⟩
abbrev amS:Type:=((Int)×Unit)×(Unit)
def Kc:av:=⟨[.val true .elem,.val false .int],[],false⟩
def ajh:SV->Option av:=λ_=>some Kc
def atC (a0:Int):OT rU.Y:=
 (.br (au a0)
 (.ok ⟨Kc,(((aS (Int.toNat a0)).fst,((0:Int),())),())⟩)
 (.ok ⟨Kc,(({w0:=0,w1:=0,w2:=0,w3:=0},((20:Int),())),())⟩))
theorem aHe (x:amS) (Q:rU.Y->Prop):wpf te avn ax 1000 Tryz.f66 (rU.inp.inj x).tm (rU.inp.inj x).hp (fnK rU ajh Q) (λ_ _=>False)=(atC (x.1.1)).wpR Q:=by kernel_rfl
theorem atB (pre:amS->Bool) (F:amS->OT rU.Y) (hF:∀ (x:amS) oy,pre x=true->(F x).run=some oy->(atC (x.1.1)).run=some oy):aa Tryz.prog 66 (rU.aD pre F):=
 aB al Uz avm (f:=66) (fn:=Tryz.f66) (c:=ak Tryz.f66) (by kernel_rfl) (by kernel_rfl) (by kernel_rfl) (S:=rU) (k:=0) (by kernel_rfl) (λR hR=>ae) (n:=1000) (sel:=ajh) (λv o h=>by cases h;rfl) (pre:=pre) (F:=F) (T:=λx=>atC (x.1.1)) (λx Q=>aHe x Q) hF
def aji (_:amS):Bool:=true
def aBi (x:amS):OT rU.Y:=.br (au x.1.1) (.ok ⟨Kc,(((aS x.1.1.toNat).1,((0:Int),())),())⟩) (.ok ⟨Kc,((⟨0,0,0,0⟩,((20:Int),())),())⟩)
theorem aEY:aa Tryz.prog 66 (rU.aD aji aBi):=atB _ _ λx oy _ ho=>ho
def Kb:bw:=(rU.aD aji aBi)
theorem amR:aa Tryz.prog 66 Kb:=aEY
theorem amQ:aC Kb:=ay
def Mt:Env:=aw 66 Kb avn
theorem sU:aK Tryz.prog Mt:=af amR Uz
theorem Ms:ar Mt:=ab amQ QI
theorem El:aO Tryz.prog te Mt:=aE follows al sU Ms
def nX:ap:=⟨[.val true (.prod .elem (.prod .int (.prod .u64 (.prod .u64 .elem)))),.val true .elem],[],true,0,false⟩
abbrev amD:Type:=(((ag×(Int×(UInt64×(UInt64×ag)))))×(ag)×Unit)×(Unit)
def JX:Shape:=⟨53,[(2,.ptr 0 0 0),(3,.ptr 1 0 0),(4,.ptr 2 0 0),(5,.val false .u64),(6,.val false .int)],[(0,.cells [.val false .u64,.val false .u64,.val false .u64,.val false .u64,.val false .int,.val false .u64,.val false .u64,.val false .u64,.val false .u64,.val false .u64,.val false .u64]),(1,.row .u64),(2,.row .u64)],0,true⟩
abbrev dD:Type:=((Unit)×(Unit)×(Unit)×(UInt64)×(Int)×Unit)×(((UInt64)×(UInt64)×(UInt64)×(UInt64)×(Int)×(UInt64)×(UInt64)×(UInt64)×(UInt64)×(UInt64)×(UInt64)×Unit)×(List (UInt64))×(List (UInt64))×Unit)
def zC:Shape:=⟨53,[(4,.ptr 0 0 0),(5,.val false .u64)],[(0,.row .u64)],0,true⟩
abbrev nW:Type:=((Unit)×(UInt64)×Unit)×((List (UInt64))×Unit)
def ato:SE->Option Shape:=gI [(0,zC)] none
def aER (a5:UInt64) (a6:Int) (c0_0:UInt64) (c0_1:UInt64) (c0_2:UInt64) (c0_3:UInt64) (c0_4:Int) (c0_5:UInt64) (c0_6:UInt64) (c0_7:UInt64) (c0_8:UInt64) (c0_9:UInt64) (c0_10:UInt64) (c1:List (UInt64)) (c2:List (UInt64)):OT (Sum dD aI):=
 let z0:UInt64:=List.getD c1 (Int.toNat a6+0) (0:UInt64)
 (.br (decide ((0:Int)<=a6))
 (gd [inB a6 4,decide (Int.toNat a6+0<List.length c1),uB ((a5,z0,c0_5,()),()),inR (a6-(1:Int))] (.ok (.inl (((),((),((),(YA a5 z0 c0_5,(a6-(1:Int),()))))),((c0_0,(c0_1,(c0_2,(c0_3,(c0_4,(c0_5,(c0_6,(c0_7,(c0_8,(c0_9,(c0_10,()))))))))))),(c1,(c2,())))))))
 (.ok (.inr ⟨(.exit 0,zC),(((),(a5,())),(c2,()))⟩)))
def J0 (s:dD):OT (Sum dD aI):=aER (s.1.2.2.2.1) (s.1.2.2.2.2.1) (s.2.1.1) (s.2.1.2.1) (s.2.1.2.2.1) (s.2.1.2.2.2.1) (s.2.1.2.2.2.2.1) (s.2.1.2.2.2.2.2.1) (s.2.1.2.2.2.2.2.2.1) (s.2.1.2.2.2.2.2.2.2.1) (s.2.1.2.2.2.2.2.2.2.2.1) (s.2.1.2.2.2.2.2.2.2.2.2.1) (s.2.1.2.2.2.2.2.2.2.2.2.2.1) (s.2.2.1) (s.2.2.2.1)
theorem aEM (s:dD) (Q:Sum dD aI->Prop):wps te Mt ax 1000 (bg (ak Tryz.f91) 0) (JX.inj s) (cz JX ato (Q:Sum JX.T aI->Prop))=(J0 s).wpR Q:=by kernel_rfl
def Tb (g0_0:dD->nW) (s:dD):OT aI:=(.ok ⟨(.exit 0,zC),g0_0 s⟩)
def JW:Shape:=⟨53,[(2,.ptr 0 0 0),(3,.ptr 1 0 0),(4,.ptr 2 0 0)],[(0,.cells [.val false .u64,.val false .u64,.val false .u64,.val false .u64,.val false .int,.val false .u64,.val false .u64,.val false .u64,.val false .u64,.val false .u64,.val false .u64]),(1,.row .u64),(2,.row .u64)],0,true⟩
abbrev dC:Type:=((Unit)×(Unit)×(Unit)×Unit)×(((UInt64)×(UInt64)×(UInt64)×(UInt64)×(Int)×(UInt64)×(UInt64)×(UInt64)×(UInt64)×(UInt64)×(UInt64)×Unit)×(List (UInt64))×(List (UInt64))×Unit)
def rN:Shape:=⟨53,[(4,.ptr 0 0 0)],[(0,.row .u64)],0,true⟩
abbrev nV:Type:=((Unit)×Unit)×((List (UInt64))×Unit)
def atn:SE->Option Shape:=gI [] (some rN)
def aEQ (c0_0:UInt64) (c0_1:UInt64) (c0_2:UInt64) (c0_3:UInt64) (c0_4:Int) (c0_5:UInt64) (c0_6:UInt64) (c0_7:UInt64) (c0_8:UInt64) (c0_9:UInt64) (c0_10:UInt64) (c1:List (UInt64)) (c2:List (UInt64)):OT (Sum dC aI):=
 let z0:Nat:=List.length c1
 let z1:Bool:=decide (4<=z0)
 let z2:ag×Bool:=ef {w0:=List.getD c1 0 0,w1:=List.getD c1 1 0,w2:=List.getD c1 2 0,w3:=List.getD c1 3 0} {w0:=c0_0,w1:=c0_1,w2:=c0_2,w3:=c0_3}
 let z3:=z2.fst
 (gd [z1] (.br (z2.snd)
 (gd [z1,decide ((4/1:Nat)+0<=List.length c2)] (.ok (.inr ⟨(.ret,rN),(((),()),(lay c2 c1 4 (0:UInt64),()))⟩)))
 (gd [decide ((4/1:Nat)+0<=z0)] (.ok (.inl (((),((),((),()))),((c0_0,(c0_1,(c0_2,(c0_3,(c0_4,(c0_5,(c0_6,(c0_7,(c0_8,(c0_9,(c0_10,()))))))))))),(List.set (List.set (List.set (List.set c1 0 z3.w0) 1 z3.w1) 2 z3.w2) 3 z3.w3,(c2,())))))))))
def JZ (s:dC):OT (Sum dC aI):=aEQ (s.2.1.1) (s.2.1.2.1) (s.2.1.2.2.1) (s.2.1.2.2.2.1) (s.2.1.2.2.2.2.1) (s.2.1.2.2.2.2.2.1) (s.2.1.2.2.2.2.2.2.1) (s.2.1.2.2.2.2.2.2.2.1) (s.2.1.2.2.2.2.2.2.2.2.1) (s.2.1.2.2.2.2.2.2.2.2.2.1) (s.2.1.2.2.2.2.2.2.2.2.2.2.1) (s.2.2.1) (s.2.2.2.1)
theorem aEL (s:dC) (Q:Sum dC aI->Prop):wps te Mt ax 1000 (bg (ak Tryz.f91) 2) (JW.inj s) (cz JW atn (Q:Sum JW.T aI->Prop))=(JZ s).wpR Q:=by kernel_rfl
def Ta (g2_r:dC->nV) (s:dC):OT aI:=(.ok ⟨(.ret,rN),g2_r s⟩)
def pu:av:=⟨[.val true .elem],[],false⟩
def aja:SV->Option av:=λ_=>some pu
def J1 (ok0:dD->Bool) (g0_0:dD->nW) (ok2:dC->Bool) (g2_r:dC->nV) (a0:(ag×(Int×(UInt64×(UInt64×ag))))) (a1:ag):OT nX.Y:=
 let z0:Bool:= !a0.snd.snd.fst==(0:UInt64)
 let z1:(UInt64×UInt64×UInt64×UInt64×Int×UInt64×UInt64×UInt64×UInt64×UInt64×UInt64×PUnit)×List UInt64×List UInt64×PUnit:=((a0.fst.w0,a0.fst.w1,a0.fst.w2,a0.fst.w3,a0.snd.fst,a0.snd.snd.fst,a0.snd.snd.snd.fst,a0.snd.snd.snd.snd.w0,a0.snd.snd.snd.snd.w1,a0.snd.snd.snd.snd.w2,a0.snd.snd.snd.snd.w3,()),[a1.w0,a1.w1,a1.w2,a1.w3],[(0:UInt64),(0:UInt64),(0:UInt64),(0:UInt64)],())
 let z2:(PUnit×PUnit×PUnit×UInt64×Int×PUnit)×(UInt64×UInt64×UInt64×UInt64×Int×UInt64×UInt64×UInt64×UInt64×UInt64×UInt64×PUnit)×List UInt64×List UInt64×PUnit:=(((),(),(),(0:UInt64),(3:Int),()),z1)
 let z3:(PUnit×UInt64×PUnit)×List UInt64×PUnit:=g0_0 z2
 let z4:=z3.snd.fst
 let z5:List UInt64:=List.set (List.set (List.set (List.set z4 0 z3.fst.snd.fst) 1 (0:UInt64)) 2 (0:UInt64)) 3 (0:UInt64)
 let z6:(PUnit×PUnit×PUnit×PUnit)×(UInt64×UInt64×UInt64×UInt64×Int×UInt64×UInt64×UInt64×UInt64×UInt64×UInt64×PUnit)×List UInt64×List UInt64×PUnit:=(((),(),(),()),z1)
 let z7:=(g2_r z6).snd.fst
 (.br (z0)
 (.br (a1.w1|||a1.w2|||a1.w3==(0:UInt64))
  (gd [z0] (.ok ⟨pu,(({w0:=a1.w0%a0.snd.snd.fst,w1:=0,w2:=0,w3:=0},()),())⟩))
  (gd [ok0 z2,decide ((4/1:Nat)+0<=List.length z4),decide (4<=List.length z5)] (.ok ⟨pu,(({w0:=List.getD z5 0 0,w1:=List.getD z5 1 0,w2:=List.getD z5 2 0,w3:=List.getD z5 3 0},()),())⟩)))
 (gd [ok2 z6,decide (4<=List.length z7)] (.ok ⟨pu,(({w0:=List.getD z7 0 0,w1:=List.getD z7 1 0,w2:=List.getD z7 2 0,w3:=List.getD z7 3 0},()),())⟩)))
theorem aG9 (ok0:dD->Bool) (g0_0:dD->nW) (ok2:dC->Bool) (g2_r:dC->nV) (x:amD) (Q:nX.Y->Prop):wpf te Mt (be 2 (cE JW 2 ok2 (Ta g2_r)) (be 0 (cE JX 0 ok0 (Tb g0_0)) ax)) 1000 Tryz.f91 (nX.inp.inj x).tm (nX.inp.inj x).hp (fnK nX aja Q) (λ_ _=>False)=(J1 ok0 g0_0 ok2 g2_r (x.1.1) (x.1.2.1)).wpR Q:=by kernel_rfl
theorem atp (ok0:dD->Bool) (g0_0:dD->nW) (ok2:dC->Bool) (g2_r:dC->nV) (h0:∀ s:dD,ok0 s=true->∃ m e,aA (J0) m s=some e/\(Tb g0_0 s).run=some e) (h2:∀ s:dC,ok2 s=true->∃ m e,aA (JZ) m s=some e/\(Ta g2_r s).run=some e) (pre:amD->Bool) (F:amD->OT nX.Y) (hF:∀ (x:amD) oy,pre x=true->(F x).run=some oy->(J1 ok0 g0_0 ok2 g2_r (x.1.1) (x.1.2.1)).run=some oy):aa Tryz.prog 91 (nX.aD pre F):=
 aB al sU El (f:=91) (fn:=Tryz.f91) (c:=ak Tryz.f91) (by kernel_rfl) (by kernel_rfl) (by kernel_rfl) (S:=nX) (k:=0) (by kernel_rfl) (λR hR=>(aG (c:=(ak Tryz.f91)) (by kernel_rfl) (id:=2) (by kernel_rfl) (ba al sU El (sh:=JW) hR (xs:=atn) (aF (by kernel_rfl) (by kernel_rfl) hR) aN ae (n:=1000) (T:=JZ) (λs Q=>aEL s Q) (ok:=ok2) (f:=Ta g2_r) h2) (aG (c:=(ak Tryz.f91)) (by kernel_rfl) (id:=0) (by kernel_rfl) (ba al sU El (sh:=JX) hR (xs:=ato) (aF (by kernel_rfl) (by kernel_rfl) hR) aN ae (n:=1000) (T:=J0) (λs Q=>aEM s Q) (ok:=ok0) (f:=Tb g0_0) h0) ae))) (n:=1000) (sel:=aja) (λv o h=>by cases h;rfl) (pre:=pre) (F:=F) (T:=λx=>J1 ok0 g0_0 ok2 g2_r (x.1.1) (x.1.2.1)) (λx Q=>aG9 ok0 g0_0 ok2 g2_r x Q) hF
def jQ (n:Nx):Bool:=decide (n=aS 0)||(decide (n=aS 1)||(decide (n=aS 2)||decide (n=aS 3)))
theorem wB {n:Nx} (h:jQ n=true):n=aS 0\/n=aS 1\/n=aS 2\/n=aS 3:=by
 simpa [jQ] using h
theorem iu {s:Int} (h:au s=true):jQ (aS s.toNat)=true:=by
 rcases ca h with rfl|rfl|rfl|rfl<;>decide+kernel
def aGD (c:List UInt64) (m:UInt64):UInt64:=upto (λk r=>YA r (c.getD (3-k) 0) m) 0 4
theorem kR {m:UInt64} (h:fA m=true):0<m.toNat:=by
 rcases dO h with rfl|rfl<;>decide
theorem ah3 {a:ag} {m:UInt64} (h:fA m=true):aGD (lst a) m=UInt64.ofNat (a.nat%m.toNat):=by
 have hm:=kR h
 rw [<-UInt64.toNat_inj,UInt64.toNat_ofNat',Nat.mod_eq_of_lt (b:=2^64) (Nat.lt_trans (Nat.mod_lt _ hm) m.toNat_lt)]
 show (YA (YA (YA (YA 0 a.w3 m) a.w2 m) a.w1 m) a.w0 m).toNat=_
 rw [pB hm,pB hm,pB hm,pB hm,SI _ a.w2.toNat,SI _ a.w1.toNat,SI _ a.w0.toNat,show (0:UInt64).toNat=0 from rfl]
 congr 1
 unfold Sx.ag.nat
 omega
def zB (s:dD):Bool:=decide (s.1.2.2.2.1=0/\s.1.2.2.2.2.1=3/\s.2.2.1.length=4)&&fA s.2.1.2.2.2.2.2.1
def S9 (s:dD):nW:=(((),aGD s.2.2.1 s.2.1.2.2.2.2.2.1,()),(s.2.2.2.1,()))
theorem aEP:∀ s:dD,zB s=true->∃ m e,aA J0 m s=some e/\(Tb S9 s).run=some e:=by
 rintro ⟨⟨⟨⟩,⟨⟩,⟨⟩,r,i,⟨⟩⟩,⟨⟨x0,x1,x2,x3,x4,sm,x6,x7,x8,x9,x10,⟨⟩⟩,c1,c2,⟨⟩⟩⟩ h
 simp only [zB,Bool.and_eq_true,decide_eq_true_eq] at h
 obtain ⟨⟨rfl,rfl,hl⟩,hs⟩:=h
 have hm:=kR hs
 have:=(aR (T:=J0) (λk r=>((((),(),(),r,3-(k:Int),()),((x0,x1,x2,x3,x4,sm,x6,x7,x8,x9,x10,()),c1,c2,())):dD)) (λk r=>YA r (c1.getD (3-k) 0) sm)
  (λr=>(⟨(.exit 0,zC),(((),r,()),(c2,()))⟩:aI)) 4 0 (λ_ r=>r.toNat<sm.toNat) hm (λk r hk hr=>⟨?_,?_⟩) (λr hr=> ?_)).1
 ·obtain ⟨m,hm⟩:=this
  exact ⟨m,_,hm,rfl⟩
 ·have e1:(3-(k:Int)).toNat=3-k:=by omega
  have e2:(3:Int)-(k:Int)-1=3-((k+1:Nat):Int):=by omega
  refine (OT.az (decide_eq_true (by dsimp only;omega))).trans ((aj ?_).trans ?_)
  ·simp only [e1,Nat.add_zero,hl,List.all_cons,List.all_nil,Bool.and_true,Bool.and_eq_true]
   refine ⟨aM (by omega),decide_eq_true (by omega),?_,aL (by omega)⟩
   simp only [uB,Bool.and_eq_true]
   exact ⟨hs,decide_eq_true (UInt64.lt_iff_toNat_lt.2 hr)⟩
  ·simp only [OT.cI,e1,e2,Nat.add_zero]
 ·rw [pB hm]
  exact Nat.mod_lt _ hm
 ·exact OT.aq (decide_eq_false (by dsimp only;omega))
def aIa (s:dC):ag:=⟨s.2.1.1,s.2.1.2.1,s.2.1.2.2.1,s.2.1.2.2.2.1⟩
def GR (s:dC):Bool:=decide (s.2.2.1.length=4/\s.2.2.2.1.length=4/\0<(aIa s).nat)
def S8 (s:dC):nV:=(((),()),(lst (ofN ((elemOf s.2.2.1).nat%(aIa s).nat)),()))
theorem amB {x0 x1 x2 x3 x5 x6 x7 x8 x9 x10:UInt64} {x4:Int} {c2:List UInt64} (hc:c2.length=4) (hm:0<(ag.mk x0 x1 x2 x3).nat):∀ (n:Nat) (a:ag),a.nat=n->
 ∃ m,aA JZ m (((),(),(),()),((x0,x1,x2,x3,x4,x5,x6,x7,x8,x9,x10,()),lst a,c2,()))=some ⟨(.ret,rN),(((),()),(lst (ofN (a.nat%(ag.mk x0 x1 x2 x3).nat)),()))⟩:=by
 intro n
 induction n using Nat.strongRecOn with
 |_ n ih=>
  intro a hn
  cases hb:Nat.blt a.nat (ag.mk x0 x1 x2 x3).nat
  ·have hle:(ag.mk x0 x1 x2 x3).nat<=a.nat:=by
    rcases Nat.lt_or_ge a.nat (ag.mk x0 x1 x2 x3).nat with h|h
    ·have:Nat.blt a.nat (ag.mk x0 x1 x2 x3).nat=true:=Nat.ble_eq_true_of_le h
     rw [this] at hb;cases hb
    ·exact h
   have hd:=l9 hle
   obtain ⟨m,hm2⟩:=ih (a.nat-(ag.mk x0 x1 x2 x3).nat) (by omega) (ef a ⟨x0,x1,x2,x3⟩).1 hd
   rw [hd,<-Nat.mod_eq_sub_mod hle] at hm2
   refine ⟨m+1,aJ ?_ hm2⟩
   refine (aj ?_).trans ((OT.aq hb).trans ((aj ?_).trans rfl))
   ·rfl
   ·rfl
  ·have hlt:=dW hb
   rw [Nat.mod_eq_of_lt hlt,tX]
   refine ⟨1,bc ?_⟩
   refine (aj ?_).trans ((OT.az hb).trans ((aj ?_).trans ?_))
   ·rfl
   ·simp only [hc,List.all_cons,List.all_nil,Bool.and_true,Bool.and_eq_true]
    exact ⟨rfl,rfl⟩
   ·show some (Sum.inr (⟨(.ret,rN),(((),()),(lay c2 (lst a) 4 0,()))⟩:aI))=_
    rw [vo hc (cr a)]
theorem aEO:∀ s:dC,GR s=true->∃ m e,aA JZ m s=some e/\(Ta S8 s).run=some e:=by
 rintro ⟨⟨⟨⟩,⟨⟩,⟨⟩,⟨⟩⟩,⟨⟨x0,x1,x2,x3,x4,x5,x6,x7,x8,x9,x10,⟨⟩⟩,c1,c2,⟨⟩⟩⟩ h
 have h':=of_decide_eq_true h
 dsimp only [aIa] at h'
 obtain ⟨h1,h2,h3⟩:=h'
 obtain ⟨m,hm⟩:=amB (x4:=x4) (x5:=x5) (x6:=x6) (x7:=x7) (x8:=x8) (x9:=x9) (x10:=x10) h2 h3 _ (elemOf c1) rfl
 rw [aP h1] at hm
 exact ⟨m,_,hm,rfl⟩
def fU (x:amD):Bool:=jQ x.1.1
def aBe (x:amD):OT nX.Y:=.ok ⟨pu,((ofN (x.1.2.1.nat%x.1.1.1.nat),()),())⟩
theorem rr {n:Nat} (h:n<18446744073709551616):ofN n=⟨UInt64.ofNat n,0,0,0⟩:=by
 refine asx (k:=0) ?_
 rw [UInt64.toNat_ofNat',Nat.mod_eq_of_lt (by omega)]
 simp
theorem JY {n:Nx} {a:ag} {m:UInt64} (h1:n.1=⟨m,0,0,0⟩) (h2:n.2.2.1=m) (hs:fA m=true):(J1 zB S9 GR S8 n a).run=some ⟨pu,((ofN (a.nat%n.1.nat),()),())⟩:=by
 have hm:=kR hs
 have hn:n.1.nat=m.toNat:=by rw [h1];show m.toNat+_*(0+_*(0+_*0))=_;omega
 have hz:(!(n.2.2.1==0))=true:=by
  rw [h2]
  rcases dO hs with rfl|rfl<;>rfl
 have hlt:a.nat%m.toNat<18446744073709551616:=Nat.lt_trans (Nat.mod_lt _ hm) m.toNat_lt
 rw [hn,rr hlt]
 unfold J1
 refine (OT.az hz).trans ?_
 cases hb:(a.w1|||a.w2|||a.w3==0)
 ·refine (OT.aq rfl).trans ((aj ?_).trans ?_)
  ·simp only [List.all_cons,List.all_nil,Bool.and_true,Bool.and_eq_true]
   refine ⟨?_,rfl,rfl⟩
   show (decide _&&fA n.2.2.1)=true
   rw [h2,hs,Bool.and_true]
   exact decide_eq_true ⟨rfl,rfl,rfl⟩
  ·show some (⟨pu,((⟨aGD (lst a) n.2.2.1,0,0,0⟩,()),())⟩:nX.Y)=_
   rw [h2,ah3 hs]
 ·refine (OT.az rfl).trans ((aj ?_).trans ?_)
  ·simp only [hz,List.all_cons,List.all_nil,Bool.and_true]
  ·have hw:a.w1=0/\a.w2=0/\a.w3=0:=by
    have:a.w1|||a.w2|||a.w3=0:=by simpa using hb
    simpa [UInt64.or_eq_zero_iff,and_assoc] using this
   have ha:a.nat=a.w0.toNat:=by
    unfold Sx.ag.nat
    rw [hw.1,hw.2.1,hw.2.2]
    show _+_*(0+_*(0+_*0))=_
    omega
   show some (⟨pu,((⟨a.w0%n.2.2.1,0,0,0⟩,()),())⟩:nX.Y)=_
   have e:a.w0%n.2.2.1=UInt64.ofNat (a.nat%m.toNat):=by
    rw [h2,ha,<-UInt64.toNat_inj,UInt64.toNat_mod,UInt64.toNat_ofNat']
    exact (Nat.mod_eq_of_lt (by rw [<-ha];omega)).symm
   rw [e]
theorem PT {n:Nx} {a:ag} (h2:n.2.2.1=0) (hs:0<n.1.nat):(J1 zB S9 GR S8 n a).run=some ⟨pu,((ofN (a.nat%n.1.nat),()),())⟩:=by
 unfold J1
 refine (OT.aq (by rw [h2];rfl)).trans ((aj ?_).trans ?_)
 ·simp only [List.all_cons,List.all_nil,Bool.and_true,Bool.and_eq_true]
  exact ⟨decide_eq_true ⟨rfl,rfl,hs⟩,rfl⟩
 ·rfl
theorem aIw:0<(aS 2).1.nat:=by decide+kernel
theorem aIv:0<(aS 3).1.nat:=by decide+kernel
theorem aEN:aa Tryz.prog 91 (nX.aD fU aBe):=atp zB S9 GR S8 aEP aEO _ _ λx oy hp ho=>by
 rw [<-ho]
 clear ho
 obtain ⟨⟨n,a,⟨⟩⟩,⟨⟩⟩:=x
 have hp':jQ n=true:=hp
 rcases wB hp' with rfl|rfl|rfl|rfl
 ·exact JY (m:=16513537) rfl rfl rfl
 ·exact JY (m:=16521217) rfl rfl rfl
 ·exact PT rfl aIw
 ·exact PT rfl aIv
def JV:bw:=(nX.aD fU aBe)
theorem amC:aa Tryz.prog 91 JV:=aEN
theorem amA:aC JV:=ay
def Z1:Env:=aw 91 JV Mt
theorem Ml:aK Tryz.prog Z1:=af amC sU
theorem Mm:ar Z1:=ab amA Ms
theorem an8:aO Tryz.prog te Z1:=aE follows al Ml Mm
def lE:ap:=⟨[.val true (.prod .elem (.prod .int (.prod .u64 (.prod .u64 .elem)))),.val true .elem,.val true .elem],[],true,0,false⟩
abbrev P5:Type:=(((ag×(Int×(UInt64×(UInt64×ag)))))×(ag)×(ag)×Unit)×(Unit)
def Tq:av:=⟨[.val true .elem],[],false⟩
def Yr:SV->Option av:=λ_=>some Tq
def adQ (a0:(ag×(Int×(UInt64×(UInt64×ag))))) (a1:ag) (a2:ag):OT lE.Y:=
 let z0:Nat:=ag.nat a0.fst
 let z1:ag:=(oE (ofN (ag.nat a1%z0)) (ofN (ag.nat a2%z0))).fst
 (gd [fU ((a0,a1,()),()),fU ((a0,a2,()),()),fU ((a0,z1,()),())] (.ok ⟨Tq,((ofN (ag.nat z1%z0),()),())⟩))
theorem aE5 (x:P5) (Q:lE.Y->Prop):wpf te Z1 ax 1000 Tryz.f78 (lE.inp.inj x).tm (lE.inp.inj x).hp (fnK lE Yr Q) (λ_ _=>False)=(adQ (x.1.1) (x.1.2.1) (x.1.2.2.1)).wpR Q:=by kernel_rfl
theorem ana (pre:P5->Bool) (F:P5->OT lE.Y) (hF:∀ (x:P5) oy,pre x=true->(F x).run=some oy->(adQ (x.1.1) (x.1.2.1) (x.1.2.2.1)).run=some oy):aa Tryz.prog 78 (lE.aD pre F):=
 aB al Ml an8 (f:=78) (fn:=Tryz.f78) (c:=ak Tryz.f78) (by kernel_rfl) (by kernel_rfl) (by kernel_rfl) (S:=lE) (k:=0) (by kernel_rfl) (λR hR=>ae) (n:=1000) (sel:=Yr) (λv o h=>by cases h;rfl) (pre:=pre) (F:=F) (T:=λx=>adQ (x.1.1) (x.1.2.1) (x.1.2.2.1)) (λx Q=>aE5 x Q) hF
theorem zb {n:Nx} (h:jQ n=true):0<n.1.nat/\n.1.nat<57896044618658097711785492504343953926634992332820282019728792003956564819968:=by
 rcases wB h with rfl|rfl|rfl|rfl
 ·exact ⟨by decide+kernel,by decide+kernel⟩
 ·exact ⟨by decide+kernel,by decide+kernel⟩
 ·exact ⟨by decide+kernel,by decide+kernel⟩
 ·exact ⟨by decide+kernel,by decide+kernel⟩
def pS (s:Int):Nat:=(aS s.toNat).1.nat
theorem rn {s:Int} (h:au s=true):0<pS s/\pS s<57896044618658097711785492504343953926634992332820282019728792003956564819968:=zb (iu h)
def vh (p:Nat) (a b:ag):ag:=ofN ((a.nat+b.nat)%p)
def Pq (p:Nat) (a:ag):ag:=ofN ((p-a.nat%p)%p)
def dI (p:Nat) (a b:ag):ag:=ofN (a.nat*b.nat%p)
theorem df {p n:Nat} (h:0<p/\p<57896044618658097711785492504343953926634992332820282019728792003956564819968):(ofN (n%p)).nat=n%p:=by
 have:=Nat.mod_lt n h.1
 exact jR (by omega)
theorem avg {p:Nat} (h:0<p/\p<57896044618658097711785492504343953926634992332820282019728792003956564819968) (a b:ag):ofN ((oE (ofN (a.nat%p)) (ofN (b.nat%p))).1.nat%p)=vh p a b:=by
 have ha:=Nat.mod_lt a.nat h.1
 have hb:=Nat.mod_lt b.nat h.1
 have e:(oE (ofN (a.nat%p)) (ofN (b.nat%p))).1.nat=a.nat%p+b.nat%p:=by
  show (ofN _).nat=_
  rw [df h,df h]
  exact jR (by omega)
 unfold vh
 rw [e,<-Nat.add_mod]
def Kv (x:P5):Bool:=jQ x.1.1
def adR (x:P5):OT lE.Y:=.ok ⟨Tq,((vh x.1.1.1.nat x.1.2.1 x.1.2.2.1,()),())⟩
theorem azL:aa Tryz.prog 78 (lE.aD Kv adR):=ana _ _ λx oy hp ho=>by
 rw [<-ho]
 clear ho
 obtain ⟨⟨n,a,b,⟨⟩⟩,⟨⟩⟩:=x
 have hp':jQ n=true:=hp
 refine (aj ?_).trans ?_
 ·simp only [List.all_cons,List.all_nil,Bool.and_true,Bool.and_eq_true]
  exact ⟨hp',hp',hp'⟩
 ·simp only [adR,avg (zb hp')]
def Df:bw:=(lE.aD Kv adR)
theorem adP:aa Tryz.prog 78 Df:=azL
theorem adO:aC Df:=ay
def MD:Env:=aw 78 Df Z1
theorem Eo:aK Tryz.prog MD:=af adP Ml
theorem F2:ar MD:=ab adO Mm
theorem afc:aO Tryz.prog te MD:=aE follows al Eo F2
def lB:ap:=⟨[.val true (.prod .elem (.prod .int (.prod .u64 (.prod .u64 .elem)))),.val true .elem],[],true,0,false⟩
abbrev PW:Type:=(((ag×(Int×(UInt64×(UInt64×ag)))))×(ag)×Unit)×(Unit)
def Tf:av:=⟨[.val true .elem],[],false⟩
def Yd:SV->Option av:=λ_=>some Tf
def adA (a0:(ag×(Int×(UInt64×(UInt64×ag))))) (a1:ag):OT lB.Y:=
 let z0:Nat:=ag.nat a0.fst
 let z1:ag:=(ef a0.fst (ofN (ag.nat a1%z0))).fst
 (gd [fU ((a0,a1,()),()),fU ((a0,z1,()),())] (.ok ⟨Tf,((ofN (ag.nat z1%z0),()),())⟩))
theorem aEV (x:PW) (Q:lB.Y->Prop):wpf te MD ax 1000 Tryz.f139 (lB.inp.inj x).tm (lB.inp.inj x).hp (fnK lB Yd Q) (λ_ _=>False)=(adA (x.1.1) (x.1.2.1)).wpR Q:=by kernel_rfl
theorem amL (pre:PW->Bool) (F:PW->OT lB.Y) (hF:∀ (x:PW) oy,pre x=true->(F x).run=some oy->(adA (x.1.1) (x.1.2.1)).run=some oy):aa Tryz.prog 139 (lB.aD pre F):=
 aB al Eo afc (f:=139) (fn:=Tryz.f139) (c:=ak Tryz.f139) (by kernel_rfl) (by kernel_rfl) (by kernel_rfl) (S:=lB) (k:=0) (by kernel_rfl) (λR hR=>ae) (n:=1000) (sel:=Yd) (λv o h=>by cases h;rfl) (pre:=pre) (F:=F) (T:=λx=>adA (x.1.1) (x.1.2.1)) (λx Q=>aEV x Q) hF
theorem aEt {m:ag} (h:0<m.nat/\m.nat<57896044618658097711785492504343953926634992332820282019728792003956564819968) (a:ag):ofN ((ef m (ofN (a.nat%m.nat))).1.nat%m.nat)=Pq m.nat a:=by
 have ha:=Nat.mod_lt a.nat h.1
 have e:=df (n:=a.nat) h
 have e2:(ef m (ofN (a.nat%m.nat))).1.nat=m.nat-a.nat%m.nat:=by
  rw [l9 (by rw [e];omega),e]
 unfold Pq
 rw [e2]
def zF (x:PW):Bool:=jQ x.1.1
def adB (x:PW):OT lB.Y:=.ok ⟨Tf,((Pq x.1.1.1.nat x.1.2.1,()),())⟩
theorem azD:aa Tryz.prog 139 (lB.aD zF adB):=amL _ _ λx oy hp ho=>by
 rw [<-ho]
 clear ho
 obtain ⟨⟨n,a,⟨⟩⟩,⟨⟩⟩:=x
 have hp':jQ n=true:=hp
 refine (aj ?_).trans ?_
 ·simp only [List.all_cons,List.all_nil,Bool.and_true,Bool.and_eq_true]
  exact ⟨hp',hp'⟩
 ·simp only [adB,aEt (zb hp')]
def C9:bw:=(lB.aD zF adB)
theorem adz:aa Tryz.prog 139 C9:=azD
theorem ady:aC C9:=ay
def Mo:Env:=aw 139 C9 MD
theorem Ej:aK Tryz.prog Mo:=af adz Eo
theorem FY:ar Mo:=ab ady F2
theorem afa:aO Tryz.prog te Mo:=aE follows al Ej FY
def r7:ap:=⟨[.val false .int,.val true .elem,.val true .elem],[],true,0,false⟩
abbrev am9:Type:=((Int)×(ag)×(ag)×Unit)×(Unit)
def Ku:av:=⟨[.val true .elem],[],false⟩
def ajq:SV->Option av:=λ_=>some Ku
def atU (a0:Int) (a1:ag) (a2:ag):OT r7.Y:=
 let z0:ag×Int×UInt64×UInt64×ag:=aS (Int.toNat a0)
 (.br (au a0)
 (gd [Kv ((z0,a1,a2,()),())] (.ok ⟨Ku,((vh (ag.nat z0.fst) a1 a2,()),())⟩))
 (.ok ⟨Ku,(({w0:=0,w1:=0,w2:=0,w3:=0},()),())⟩))
theorem aHi (x:am9) (Q:r7.Y->Prop):wpf te Mo ax 1000 Tryz.f43 (r7.inp.inj x).tm (r7.inp.inj x).hp (fnK r7 ajq Q) (λ_ _=>False)=(atU (x.1.1) (x.1.2.1) (x.1.2.2.1)).wpR Q:=by kernel_rfl
theorem atT (pre:am9->Bool) (F:am9->OT r7.Y) (hF:∀ (x:am9) oy,pre x=true->(F x).run=some oy->(atU (x.1.1) (x.1.2.1) (x.1.2.2.1)).run=some oy):aa Tryz.prog 43 (r7.aD pre F):=
 aB al Ej afa (f:=43) (fn:=Tryz.f43) (c:=ak Tryz.f43) (by kernel_rfl) (by kernel_rfl) (by kernel_rfl) (S:=r7) (k:=0) (by kernel_rfl) (λR hR=>ae) (n:=1000) (sel:=ajq) (λv o h=>by cases h;rfl) (pre:=pre) (F:=F) (T:=λx=>atU (x.1.1) (x.1.2.1) (x.1.2.2.1)) (λx Q=>aHi x Q) hF
def ajr (_:am9):Bool:=true
def aBl (x:am9):OT r7.Y:=.br (au x.1.1) (.ok ⟨Ku,((vh (pS x.1.1) x.1.2.1 x.1.2.2.1,()),())⟩) (.ok ⟨Ku,((⟨0,0,0,0⟩,()),())⟩)
theorem aE4:aa Tryz.prog 43 (r7.aD ajr aBl):=atT _ _ λx oy hp ho=>by
 rw [<-ho]
 clear ho
 obtain ⟨⟨s,a,b,⟨⟩⟩,⟨⟩⟩:=x
 cases hs:au s
 ·exact (OT.aq hs).trans (OT.aq (b:=au s) hs).symm
 ·refine (OT.az hs).trans ((aj ?_).trans (OT.az (b:=au s) hs).symm)
  simp only [List.all_cons,List.all_nil,Bool.and_true]
  exact iu hs
def Kt:bw:=(r7.aD ajr aBl)
theorem am8:aa Tryz.prog 43 Kt:=aE4
theorem am7:aC Kt:=ay
def Z6:Env:=aw 43 Kt Mo
theorem MB:aK Tryz.prog Z6:=af am8 Ej
theorem MC:ar Z6:=ab am7 FY
theorem aoc:aO Tryz.prog te Z6:=aE follows al MB MC
def rR:ap:=⟨[.val false .int,.val true .elem],[],true,0,false⟩
abbrev amK:Type:=((Int)×(ag)×Unit)×(Unit)
def J7:av:=⟨[.val true .elem],[],false⟩
def ajd:SV->Option av:=λ_=>some J7
def atw (a0:Int) (a1:ag):OT rR.Y:=
 let z0:ag×Int×UInt64×UInt64×ag:=aS (Int.toNat a0)
 (.br (au a0)
 (gd [zF ((z0,a1,()),())] (.ok ⟨J7,((Pq (ag.nat z0.fst) a1,()),())⟩))
 (.ok ⟨J7,(({w0:=0,w1:=0,w2:=0,w3:=0},()),())⟩))
theorem aHc (x:amK) (Q:rR.Y->Prop):wpf te Z6 ax 1000 Tryz.f98 (rR.inp.inj x).tm (rR.inp.inj x).hp (fnK rR ajd Q) (λ_ _=>False)=(atw (x.1.1) (x.1.2.1)).wpR Q:=by kernel_rfl
theorem atv (pre:amK->Bool) (F:amK->OT rR.Y) (hF:∀ (x:amK) oy,pre x=true->(F x).run=some oy->(atw (x.1.1) (x.1.2.1)).run=some oy):aa Tryz.prog 98 (rR.aD pre F):=
 aB al MB aoc (f:=98) (fn:=Tryz.f98) (c:=ak Tryz.f98) (by kernel_rfl) (by kernel_rfl) (by kernel_rfl) (S:=rR) (k:=0) (by kernel_rfl) (λR hR=>ae) (n:=1000) (sel:=ajd) (λv o h=>by cases h;rfl) (pre:=pre) (F:=F) (T:=λx=>atw (x.1.1) (x.1.2.1)) (λx Q=>aHc x Q) hF
def aje (_:amK):Bool:=true
def aBf (x:amK):OT rR.Y:=.br (au x.1.1) (.ok ⟨J7,((Pq (pS x.1.1) x.1.2.1,()),())⟩) (.ok ⟨J7,((⟨0,0,0,0⟩,()),())⟩)
theorem aEU:aa Tryz.prog 98 (rR.aD aje aBf):=atv _ _ λx oy hp ho=>by
 rw [<-ho]
 clear ho
 obtain ⟨⟨s,a,⟨⟩⟩,⟨⟩⟩:=x
 cases hs:au s
 ·exact (OT.aq hs).trans (OT.aq (b:=au s) hs).symm
 ·refine (OT.az hs).trans ((aj ?_).trans (OT.az (b:=au s) hs).symm)
  simp only [List.all_cons,List.all_nil,Bool.and_true]
  exact iu hs
def J6:bw:=(rR.aD aje aBf)
theorem amJ:aa Tryz.prog 98 J6:=aEU
theorem amI:aC J6:=ay
def QK:Env:=aw 98 J6 Z6
theorem A0:aK Tryz.prog QK:=af amJ MB
theorem Mn:ar QK:=ab amI MC
theorem QJ:aO Tryz.prog te QK:=aE follows al A0 Mn
end Go.Proofs.YtohjofabochgfaaGreat

namespace Go.Proofs.YtohjofabochgfaaGreat
open Sx Go
def l6 (n:Nat):List UInt64:= [UInt64.ofNat n,UInt64.ofNat (n/18446744073709551616),UInt64.ofNat (n/18446744073709551616/18446744073709551616),UInt64.ofNat (n/18446744073709551616/18446744073709551616/18446744073709551616),
 UInt64.ofNat (n/18446744073709551616/18446744073709551616/18446744073709551616/18446744073709551616),UInt64.ofNat (n/18446744073709551616/18446744073709551616/18446744073709551616/18446744073709551616/18446744073709551616)]
def v6 (l:List UInt64):Nat:=(l.getD 0 0).toNat+18446744073709551616*((l.getD 1 0).toNat+18446744073709551616*((l.getD 2 0).toNat+18446744073709551616*((l.getD 3 0).toNat+18446744073709551616*((l.getD 4 0).toNat+18446744073709551616*(l.getD 5 0).toNat))))
theorem gC {m:Nat} {x:UInt64} (hm:m%18446744073709551616=x.toNat):UInt64.ofNat m=x:=by
 rw [<-UInt64.toNat_inj,UInt64.toNat_ofNat']
 exact hm
theorem aH2 {n:Nat} {a b c d e:UInt64} {k:Nat} {f:UInt64} (h:n=a.toNat+18446744073709551616*(b.toNat+18446744073709551616*(c.toNat+18446744073709551616*(d.toNat+18446744073709551616*(e.toNat+18446744073709551616*k))))) (hf:k%18446744073709551616=f.toNat):l6 n= [a,b,c,d,e,f]:=by
 obtain ⟨h1,h0⟩:=div_eq a.toNat_lt h
 obtain ⟨h2,h3⟩:=div_eq b.toNat_lt h1
 obtain ⟨h4,h5⟩:=div_eq c.toNat_lt h2
 obtain ⟨h6,h7⟩:=div_eq d.toNat_lt h4
 obtain ⟨h8,h9⟩:=div_eq e.toNat_lt h6
 unfold l6
 rw [gC (x:=a) h0,gC (x:=b) h3,gC (x:=c) h5,gC (x:=d) h7,gC (x:=e) h9,gC (x:=f) (by rw [h8];exact hf)]
theorem asR (n:Nat):(l6 n).length=6:=rfl
def aFV (t a x c:UInt64):UInt64:=vi t (vi (a*x) c 0) 0
def Bp (t a x c:UInt64):UInt64:=avu a x+xB (a*x) c 0+xB t (vi (a*x) c 0) 0
theorem aFD {t P p h c l k1 r k2 W:Nat} (hP:P=p+W*h) (h1:p+c=l+W*k1) (h2:t+l=r+W*k2):t+P+c=r+W*(h+k1+k2):=by
 rw [Nat.mul_add,Nat.mul_add]
 omega
theorem avi {t P c r q W:Nat} (hW:0<W) (ht:t<=W-1) (hc:c<=W-1) (hP:P<=(W-1)*(W-1)) (h:t+P+c=r+W*q):q<W:=by
 obtain ⟨V,rfl⟩:∃ V,W=V+1:=⟨W-1,by omega⟩
 rw [Nat.add_sub_cancel] at*
 refine Nat.lt_of_not_le λhq=> ?_
 have h1:(V+1)*(V+1)<=(V+1)*q:=Nat.mul_le_mul_left _ hq
 have h2:(V+1)*(V+1)=V*V+V+V+1:=by rw [Nat.add_mul,Nat.mul_add,Nat.one_mul,Nat.mul_one];omega
 omega
theorem ay5 (a x:UInt64):(avu a x).toNat=a.toNat*x.toNat/18446744073709551616:=by
 have ha:=a.toNat_lt
 have hx:=x.toNat_lt
 have:a.toNat*x.toNat/18446744073709551616<18446744073709551616:=by
  rw [Nat.div_lt_iff_lt_mul (by omega)]
  exact Nat.mul_lt_mul'' ha hx
 unfold avu
 rw [UInt64.toNat_ofNat',Nat.mod_eq_of_lt this]
theorem G5 (t a x c:UInt64):t.toNat+a.toNat*x.toNat+c.toNat=(aFV t a x c).toNat+18446744073709551616*(Bp t a x c).toNat:=by
 have hP:a.toNat*x.toNat=(a*x).toNat+18446744073709551616*(avu a x).toNat:=by
  rw [ay5,UInt64.toNat_mul]
  exact (Nat.mod_add_div _ _).symm
 have h1:=lQ (a*x) c 0
 have h2:=lQ t (vi (a*x) c 0) 0
 rw [show (0:UInt64).toNat=0 from rfl,Nat.add_zero] at h1 h2
 have key:=aFD hP h1 h2
 have hb:=avi (W:=18446744073709551616) (by omega) (Nat.le_sub_one_of_lt t.toNat_lt) (Nat.le_sub_one_of_lt c.toNat_lt) (Nat.mul_le_mul (Nat.le_sub_one_of_lt a.toNat_lt) (Nat.le_sub_one_of_lt x.toNat_lt)) key
 have e:(Bp t a x c).toNat=(avu a x).toNat+(xB (a*x) c 0).toNat+(xB t (vi (a*x) c 0) 0).toNat:=by
  unfold Bp
  rw [UInt64.toNat_add,UInt64.toNat_add,Nat.mod_add_mod]
  exact Nat.mod_eq_of_lt hb
 rw [e]
 exact key
theorem G6 {t a x c s k T A R W:Nat} (h1:t+a*x+c=s+W*k) (h2:T+A*x+k=R):(t+W*T)+(a+W*A)*x+c=s+W*R:=by
 rw [Nat.add_mul,Nat.mul_assoc,<-h2,Nat.mul_add,Nat.mul_add]
 omega
def aIs (t0 t1 t2 t3 t4 t5:UInt64) (a:ag) (x:UInt64):List UInt64:=
 let k0:=Bp t0 a.w0 x 0
 let k1:=Bp t1 a.w1 x k0
 let k2:=Bp t2 a.w2 x k1
 let k3:=Bp t3 a.w3 x k2
 [aFV t0 a.w0 x 0,aFV t1 a.w1 x k0,aFV t2 a.w2 x k1,aFV t3 a.w3 x k2,vi t4 k3 0,t5+xB t4 k3 0]
theorem aFE (t0 t1 t2 t3 t4 t5:UInt64) (a:ag) (x:UInt64):aIs t0 t1 t2 t3 t4 t5 a x=l6 (v6 [t0,t1,t2,t3,t4,t5]+a.nat*x.toNat):=by
 have h4:=lQ t4 (Bp t3 a.w3 x (Bp t2 a.w2 x (Bp t1 a.w1 x (Bp t0 a.w0 x 0)))) 0
 rw [show (0:UInt64).toNat=0 from rfl,Nat.add_zero] at h4
 have h5:(t4.toNat+18446744073709551616*t5.toNat)+0*x.toNat+(Bp t3 a.w3 x (Bp t2 a.w2 x (Bp t1 a.w1 x (Bp t0 a.w0 x 0)))).toNat=
  (vi t4 (Bp t3 a.w3 x (Bp t2 a.w2 x (Bp t1 a.w1 x (Bp t0 a.w0 x 0)))) 0).toNat+18446744073709551616*(t5.toNat+(xB t4 (Bp t3 a.w3 x (Bp t2 a.w2 x (Bp t1 a.w1 x (Bp t0 a.w0 x 0)))) 0).toNat):=by
  rw [Nat.zero_mul,Nat.mul_add]
  omega
 have h:=G6 (G5 t0 a.w0 x 0) (G6 (G5 t1 a.w1 x _) (G6 (G5 t2 a.w2 x _) (G6 (G5 t3 a.w3 x _) h5)))
 rw [show (0:UInt64).toNat=0 from rfl,Nat.add_zero,Nat.mul_zero,Nat.add_zero] at h
 exact (aH2 (f:=t5+xB t4 (Bp t3 a.w3 x (Bp t2 a.w2 x (Bp t1 a.w1 x (Bp t0 a.w0 x 0)))) 0) h (by rw [UInt64.toNat_add])).symm
end Go.Proofs.YtohjofabochgfaaGreat

namespace Go.Proofs.YtohjofabochgfaaGreat
open Sx Go
set_option maxRecDepth 100000
def r8:ap:=⟨[.val true (.arr 6 .u64),.val true .elem,.val false .u64],[],true,0,false⟩
abbrev ane:Type:=((List (UInt64))×(ag)×(UInt64)×Unit)×(Unit)
def Kx:Shape:=⟨61,[(2,.val false .u64),(3,.ptr 0 0 0),(4,.ptr 1 0 0),(6,.ptr 2 0 0),(7,.val false .u64),(13,.val false .int)],[(0,.row .u64),(1,.row .u64),(2,.row .u64)],0,true⟩
abbrev dF:Type:=((UInt64)×(Unit)×(Unit)×(Unit)×(UInt64)×(Int)×Unit)×((List (UInt64))×(List (UInt64))×(List (UInt64))×Unit)
def zH:Shape:=⟨61,[(3,.ptr 0 0 0),(6,.ptr 1 0 0),(7,.val false .u64)],[(0,.row .u64),(1,.row .u64)],0,true⟩
abbrev n8:Type:=((Unit)×(Unit)×(UInt64)×Unit)×((List (UInt64))×(List (UInt64))×Unit)
def atV:SE->Option Shape:=gI [(0,zH)] none
def aE9 (a2:UInt64) (a7:UInt64) (a13:Int) (c0:List (UInt64)) (c1:List (UInt64)) (c2:List (UInt64)):OT (Sum dF aI):=
 let z0:Bool:=inB a13 6
 let z1:Bool:=decide (Int.toNat a13+0<List.length c0)
 let z2:UInt64:=List.getD c1 (Int.toNat a13+0) (0:UInt64)
 let z3:UInt64:=List.getD c0 (Int.toNat a13+0) (0:UInt64)
 let z4:UInt64:=vi (z2*a2) a7 (0:UInt64)
 (.br (decide (a13<(4:Int)))
 (gd [inB a13 4,decide (Int.toNat a13+0<List.length c1),z0,z1,z0,z1,inR (a13+(1:Int))] (.ok (.inl ((a2,((),((),((),(avu z2 a2+xB (z2*a2) a7 (0:UInt64)+xB z3 z4 (0:UInt64),(a13+(1:Int),())))))),(List.set c0 (Int.toNat a13+0) (vi z3 z4 (0:UInt64)),(c1,(c2,())))))))
 (.ok (.inr ⟨(.exit 0,zH),(((),((),(a7,()))),(c0,(c2,())))⟩)))
def Ky (s:dF):OT (Sum dF aI):=aE9 (s.1.1) (s.1.2.2.2.2.1) (s.1.2.2.2.2.2.1) (s.2.1) (s.2.2.1) (s.2.2.2.1)
theorem aE6 (s:dF) (Q:Sum dF aI->Prop):wps te QK ax 1000 (bg (ak Tryz.f150) 0) (Kx.inj s) (cz Kx atV (Q:Sum Kx.T aI->Prop))=(Ky s).wpR Q:=by kernel_rfl
def Tt (g0_0:dF->n8) (s:dF):OT aI:=(.ok ⟨(.exit 0,zH),g0_0 s⟩)
def adT:av:=⟨[.val true (.arr 6 .u64)],[],false⟩
def ajs:SV->Option av:=λ_=>some adT
def atY (ok0:dF->Bool) (g0_0:dF->n8) (a0:List (UInt64)) (a1:ag) (a2:UInt64):OT r8.Y:=
 let z0:(UInt64×PUnit×PUnit×PUnit×UInt64×Int×PUnit)×List UInt64×List UInt64×List UInt64×PUnit:=((a2,(),(),(),(0:UInt64),(0:Int),()),tab a0 6 (0:UInt64),[a1.w0,a1.w1,a1.w2,a1.w3],[(0:UInt64),(0:UInt64),(0:UInt64),(0:UInt64),(0:UInt64),(0:UInt64)],())
 let z1:(PUnit×PUnit×UInt64×PUnit)×List UInt64×List UInt64×PUnit:=g0_0 z0
 let z2:=z1.snd
 let z3:=z2.fst
 let z4:Bool:=decide (4<List.length z3)
 let z5:UInt64:=List.getD z3 4 0
 let z6:=z1.fst.snd.snd.fst
 let z7:List UInt64:=List.set z3 4 (vi z5 z6 (0:UInt64))
 let z8:Bool:=decide (5<List.length z7)
 let z9:List UInt64:=List.set z7 5 (List.getD z7 5 0+xB z5 z6 (0:UInt64))
 let z10:=z2.snd.fst
 let z11:List UInt64:=lay z10 z9 6 (0:UInt64)
 (gd [ok0 z0,z4,z4,z8,z8,decide (6<=List.length z9),decide ((6/1:Nat)+0<=List.length z10),decide (6<=List.length z11)] (.ok ⟨adT,((tab z11 6 (0:UInt64),()),())⟩))
theorem aHj (ok0:dF->Bool) (g0_0:dF->n8) (x:ane) (Q:r8.Y->Prop):wpf te QK (be 0 (cE Kx 0 ok0 (Tt g0_0)) ax) 1000 Tryz.f150 (r8.inp.inj x).tm (r8.inp.inj x).hp (fnK r8 ajs Q) (λ_ _=>False)=(atY ok0 g0_0 (x.1.1) (x.1.2.1) (x.1.2.2.1)).wpR Q:=by kernel_rfl
theorem atW (ok0:dF->Bool) (g0_0:dF->n8) (h0:∀ s:dF,ok0 s=true->∃ m e,aA (Ky) m s=some e/\(Tt g0_0 s).run=some e) (pre:ane->Bool) (F:ane->OT r8.Y) (hF:∀ (x:ane) oy,pre x=true->(F x).run=some oy->(atY ok0 g0_0 (x.1.1) (x.1.2.1) (x.1.2.2.1)).run=some oy):aa Tryz.prog 150 (r8.aD pre F):=
 aB al A0 QJ (f:=150) (fn:=Tryz.f150) (c:=ak Tryz.f150) (by kernel_rfl) (by kernel_rfl) (by kernel_rfl) (S:=r8) (k:=0) (by kernel_rfl) (λR hR=>(aG (c:=(ak Tryz.f150)) (by kernel_rfl) (id:=0) (by kernel_rfl) (ba al A0 QJ (sh:=Kx) hR (xs:=atV) (aF (by kernel_rfl) (by kernel_rfl) hR) aN ae (n:=1000) (T:=Ky) (λs Q=>aE6 s Q) (ok:=ok0) (f:=Tt g0_0) h0) ae)) (n:=1000) (sel:=ajs) (λv o h=>by cases h;rfl) (pre:=pre) (F:=F) (T:=λx=>atY ok0 g0_0 (x.1.1) (x.1.2.1) (x.1.2.2.1)) (λx Q=>aHj ok0 g0_0 x Q) hF
def aAy (a:List UInt64) (x:UInt64) (k:Nat) (s:List UInt64×UInt64):List UInt64×UInt64:=(s.1.set k (aFV (s.1.getD k 0) (a.getD k 0) x s.2),Bp (s.1.getD k 0) (a.getD k 0) x s.2)
def aju (s:dF):Bool:=decide (s.1.2.2.2.2.1=0/\s.1.2.2.2.2.2.1=0/\s.2.1.length=6/\s.2.2.1.length=4)
def atX (s:dF):n8:=(((),(),(upto (aAy s.2.2.1 s.1.1) (s.2.1,0) 4).2,()),((upto (aAy s.2.2.1 s.1.1) (s.2.1,0) 4).1,s.2.2.2.1,()))
theorem aE8:∀ s:dF,aju s=true->∃ m e,aA Ky m s=some e/\(Tt atX s).run=some e:=by
 rintro ⟨⟨x,⟨⟩,⟨⟩,⟨⟩,c,i,⟨⟩⟩,⟨t,a,o,⟨⟩⟩⟩ h
 have h':=of_decide_eq_true h
 dsimp only at h'
 obtain ⟨rfl,rfl,ht,ha⟩:=h'
 have:=(aR (T:=Ky) (λk s=>(((x,(),(),(),s.2,(k:Int),()),(s.1,a,o,())):dF)) (aAy a x)
  (λs=>(⟨(.exit 0,zH),(((),(),s.2,()),(s.1,o,()))⟩:aI)) 4 (t,0) (λ_ s=>s.1.length=6) ht (λk s hk hs=>⟨?_,?_⟩) (λs hs=> ?_)).1
 ·obtain ⟨m,hm⟩:=this
  exact ⟨m,_,hm,rfl⟩
 ·refine (OT.az (decide_eq_true (by dsimp only;omega))).trans ((aj ?_).trans ?_)
  ·simp only [Int.toNat_natCast,Nat.add_zero,hs,ha,List.all_cons,List.all_nil,Bool.and_true,Bool.and_eq_true]
   exact ⟨aM (by omega),decide_eq_true (by omega),aM (by omega),decide_eq_true (by omega),aM (by omega),decide_eq_true (by omega),aL (by omega)⟩
  ·simp only [OT.cI,Int.toNat_natCast,Nat.add_zero]
   rfl
 ·simp only [aAy,List.length_set]
  exact hs
 ·exact OT.aq (decide_eq_false (by dsimp only;omega))
def ajt (_:ane):Bool:=true
def atZ (x:ane):OT r8.Y:=.ok ⟨adT,((l6 (v6 x.1.1+x.1.2.1.nat*x.1.2.2.1.toNat),()),())⟩
theorem aE7:aa Tryz.prog 150 (r8.aD ajt atZ):=atW aju atX aE8 _ _ λx oy hp ho=>by
 rw [<-ho]
 clear ho
 obtain ⟨⟨t,a,x,⟨⟩⟩,⟨⟩⟩:=x
 refine (aj ?_).trans ?_
 ·simp only [List.all_cons,List.all_nil,Bool.and_true,Bool.and_eq_true]
  exact ⟨rfl,rfl,rfl,rfl,rfl,rfl,rfl,rfl⟩
 ·have e:=aFE (t.getD 0 0) (t.getD 1 0) (t.getD 2 0) (t.getD 3 0) (t.getD 4 0) (t.getD 5 0) a x
  have e2:l6 (v6 t+a.nat*x.toNat)=aIs (t.getD 0 0) (t.getD 1 0) (t.getD 2 0) (t.getD 3 0) (t.getD 4 0) (t.getD 5 0) a x:=e.symm
  simp only [atZ,e2]
  rfl
def Kw:bw:=(r8.aD ajt atZ)
theorem anc:aa Tryz.prog 150 Kw:=aE7
theorem anb:aC Kw:=ay
def QM:Env:=aw 150 Kw QK
theorem A2:aK Tryz.prog QM:=af anc A0
theorem ME:ar QM:=ab anb Mn
theorem QL:aO Tryz.prog te QM:=aE follows al A2 ME
end Go.Proofs.YtohjofabochgfaaGreat

namespace Go.Proofs.YtohjofabochgfaaGreat
open Sx Go
theorem aF3 {n:Nat} (h:n/18446744073709551616/18446744073709551616/18446744073709551616/18446744073709551616/18446744073709551616<18446744073709551616):v6 (l6 n)=n:=by
 unfold v6 l6
 simp only [List.getD_cons_zero,List.getD_cons_succ,UInt64.toNat_ofNat']
 rw [show (2:Nat)^64=18446744073709551616 from rfl]
 omega
def H4 (p neg a:Nat) (b t:Nat):Nat:=(t+a*b+p*((t+a*b)*neg%18446744073709551616))/18446744073709551616
theorem tu {p neg a b t:Nat} (hn:(p*neg+1)%18446744073709551616=0):18446744073709551616*H4 p neg a b t=t+a*b+p*((t+a*b)*neg%18446744073709551616):=by
 unfold H4
 refine Nat.mul_div_cancel' (Nat.dvd_of_mod_eq_zero ?_)
 generalize t+a*b=u
 rw [Nat.add_mod,Nat.mul_mod,Nat.mod_mod,<-Nat.mul_mod,<-Nat.add_mod]
 have:u+p*(u*neg)=u*(p*neg+1):=by
  rw [Nat.mul_add,Nat.mul_one,Nat.mul_left_comm]
  omega
 rw [this,Nat.mul_mod,hn,Nat.mul_zero,Nat.zero_mod]
theorem tt {p neg a b t:Nat} (hn:(p*neg+1)%18446744073709551616=0) (ht:t<2*p) (ha:a<p) (hb:b<18446744073709551616):H4 p neg a b t<2*p:=by
 have h:=tu (a:=a) (b:=b) (t:=t) hn
 have hm:(t+a*b)*neg%18446744073709551616<=18446744073709551615:=by
  have:=Nat.mod_lt ((t+a*b)*neg) (show 0<18446744073709551616 by omega)
  omega
 have h1:p*((t+a*b)*neg%18446744073709551616)<=p*18446744073709551615:=Nat.mul_le_mul_left _ hm
 have h2:a*b<=p*18446744073709551615:=Nat.mul_le_mul (by omega) (by omega)
 omega
theorem aDQ {p a b t t1 m K T B M W:Nat} (h1:W*t1=t+a*b+p*m) (h2:K*T=t1+a*B+p*M):(W*K)*T=t+a*(b+W*B)+p*(m+W*M):=by
 have e:(W*K)*T=W*t1+W*(a*B)+W*(p*M):=by rw [Nat.mul_assoc,h2,Nat.mul_add,Nat.mul_add]
 rw [e,h1,Nat.mul_add,Nat.mul_add,Nat.mul_left_comm a W,Nat.mul_left_comm p W]
 omega
theorem aIt {p a b T K M r:Nat} (h:K*T=a*b+p*M) (hr:K*r%p=1%p):T%p=a*b*r%p:=by
 have h1:(K*T)*r=a*b*r+p*(M*r):=by rw [h,Nat.add_mul,Nat.mul_assoc p]
 have h2:a*b*r%p=(K*T*r)%p:=by rw [h1,Nat.add_mul_mod_self_left]
 have h3:K*T*r=T*(K*r):=by rw [Nat.mul_comm K T,Nat.mul_assoc]
 rw [h2,h3,Nat.mul_mod,hr,<-Nat.mul_mod,Nat.mul_one]
def aGV (p neg a:Nat) (b:ag):Nat:=H4 p neg a b.w3.toNat (H4 p neg a b.w2.toNat (H4 p neg a b.w1.toNat (H4 p neg a b.w0.toNat 0)))
theorem ay6 {p neg a r:Nat} {b:ag} (hn:(p*neg+1)%18446744073709551616=0) (hr:115792089237316195423570985008687907853269984665640564039457584007913129639936*r%p=1%p):aGV p neg a b%p=a*b.nat*r%p:=by
 have h:=aDQ (tu (a:=a) (b:=b.w0.toNat) (t:=0) hn) (aDQ (tu (a:=a) (b:=b.w1.toNat) hn) (aDQ (tu (a:=a) (b:=b.w2.toNat) hn) (show 18446744073709551616*_=_+a*b.w3.toNat+p*_ from tu hn)))
 rw [Nat.zero_add] at h
 exact aIt (K:=18446744073709551616*(18446744073709551616*(18446744073709551616*18446744073709551616))) h hr
theorem aEv {p neg a:Nat} {b:ag} (hn:(p*neg+1)%18446744073709551616=0) (ha:a<p):aGV p neg a b<2*p:=
 tt hn (tt hn (tt hn (tt hn (by omega) ha b.w0.toNat_lt) ha b.w1.toNat_lt) ha b.w2.toNat_lt) ha b.w3.toNat_lt
theorem aEw {T p:Nat} (h:T<2*p):T%p=if T<p then T else T-p:=by
 split
 ·exact Nat.mod_eq_of_lt ‹_›
 ·rw [Nat.mod_eq_sub_mod (by omega),Nat.mod_eq_of_lt (by omega)]
end Go.Proofs.YtohjofabochgfaaGreat
