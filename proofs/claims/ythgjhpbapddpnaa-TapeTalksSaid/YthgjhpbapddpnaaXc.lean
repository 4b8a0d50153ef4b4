/- A symbolic machine for Go code over plain data, and functions of the program as it shows them. No statement is proved in this file. -/
import Derived.Test.YthgjhpbapddpnaaProg
import Derived.KernelRfl
import Derived.Laws.Externs
import Derived.Lib.Mul64
import Derived.Test.YthgjhpbapddpnaaXb
set_option linter.unusedSimpArgs false
set_option linter.unusedVariables false
set_option linter.unusedSectionVars false

namespace Go.Proofs.Ythgjhpbapddpnaa
namespace Sx
open Go
def Out.after (u:List (Nat×Ch)):Out->Out
 |.ret e=>.ret ⟨e.v,u++e.upd⟩
 |.pan v u'=>.pan v (u++u')
def auH (c0 e0:Nat) (vs:List SV) (j c e:Nat) (t:Ty) (xs:List t.T):List (Nat×Ch):= [(c,⟨e+1,.row .u8 []⟩),(c0,⟨e0,.cells (vs.set j (.lst t xs))⟩)]
theorem UQ {α β:Type} {f:α->β} {x:OT α} {a:α} (h:x.run=some a):(x.map f).run=some (f a):=by
 induction x with
 |ok b=>cases h;rfl
 |br b u v hu hv=>
  cases b
  ·exact hv h
  ·exact hu h
 |fail=>cases h
theorem cW.trans {R R1 R2:Ctx} {w w':World} {u u':List (Nat×Ch)} (h:cW R R1 w u) (h':cW R1 R2 w' u'):cW R R2 w' (u++u'):=
 ⟨h.ext.trans h'.ext,by rw [h'.hp,h.hp,fK],h'.mem⟩
theorem XA {R:Ctx} {w:World} (hm:cP R w) {c e:Nat} {t:Ty} {xs:List t.T} (hc:R.hp c=some ⟨e,.row t xs⟩):
 ∃ R1,cW R R1 w [(c,⟨e+1,.row .u8 []⟩)]/\∀ v,R.own c e v->SV.rel R1 (.lst t xs) v:=by
 have h0:=hm.ch c _ hc
 cases hσ:R.σ c with
 |none=>
  simp only [dT,hσ] at h0
  obtain ⟨_,hl,rfl⟩:=h0
  have hx:R.Ext (R.upd c ⟨e+1,.row .u8 []⟩):=⟨λ_ _ h=>h,rfl,λc' ch' hc'=>by
   by_cases h1:c'=c
   ·subst h1
    rw [hc] at hc'
    cases hc'
    exact ⟨⟨e+1,.row .u8 []⟩,by simp only [Ctx.upd,if_true],Nat.le_succ e,λe'=>absurd e' (by simp)⟩
   ·exact ⟨ch',by simp only [Ctx.upd,if_neg h1,hc'],Nat.le_refl _,λ_=>⟨rfl,rfl⟩⟩⟩
  refine ⟨R.upd c ⟨e+1,.row .u8 []⟩,⟨hx,rfl,?_⟩,λv hv=> ?_⟩
  ·refine cP.turn hm hx rfl rfl (λ_ _=>rfl) w.heap.size (λ_ _ _=>rfl) ⟨hm.Np,hm.Ni,λn ch L hn h1 h2 h3=> ?_⟩ ?_ (λL h2=> ?_)
   ·have:=hm.lt h1 h2 h3;omega
   ·simp only [dT,Ctx.upd,hσ]
    exact ⟨by decide,by simp,trivial⟩
   ·have h2:R.σ c=some L:=h2
    rw [hσ] at h2;cases h2
  ·have hp:=Ctx.cm hc hv
   obtain ⟨_,_,ad,cap,rfl,h4,h5⟩:=Ctx.cp hc hp
   simp only [SV.rel,Rep]
   exact ⟨Nat.zero_le _,ad,cap,rfl,h4,.inl trivial⟩
 |some L=>
  simp only [dT,hσ] at h0
  obtain ⟨hpos,hl,hF,hU,arr,E,k1,k2,k3,k4⟩:=h0
  have ha:=LW hm hc hσ (w₁:=w) (λ_ _=>rfl) k1 ⟨rfl,rfl,rfl⟩
  refine ⟨_,ha,λv hv=> ?_⟩
  have hp:=Ctx.cm hc hv
  obtain ⟨_,_,ad,cap,rfl,h4,h5⟩:=Ctx.cp hc hp
  rw [hσ] at h5
  simp only [Chunk.shape,Nat.zero_mul,Nat.add_zero] at h4 h5
  simp only [SV.rel,Rep]
  refine ⟨hl,ad,cap,rfl,h4,?_⟩
  by_cases hx:xs= []
  ·exact .inl hx
  ·have hxl:0<xs.length:=List.length_pos_iff.2 hx
   have had:=h5.2 (by omega)
   subst had
   exact .inr ⟨L.block,L.base,arr,E,(0,0),rfl,by simp only [Ctx.kx,if_true],by omega,λi hi=>bC ha.ext.F _ _ _ (k4 i hi)⟩
theorem xQ {R:Ctx}:∀ {l:List SV} {vs:List Value} (j:Nat) (x:SV),SV.bA R l vs->(∀ v,vs[j]? =some v->SV.rel R x v)->SV.bA R (l.set j x) vs
 | [],_,_,_,h,_=>h
 |y::l,vs,0,x,h,hx=>by
  simp only [SV.bA] at h
  obtain ⟨v,r,rfl,h1,h2⟩:=h
  simp only [List.set_cons_zero,SV.bA]
  exact ⟨v,r,rfl,hx v rfl,h2⟩
 |y::l,vs,j+1,x,h,hx=>by
  simp only [SV.bA] at h
  obtain ⟨v,r,rfl,h1,h2⟩:=h
  simp only [List.set_cons_succ,SV.bA]
  exact ⟨v,r,rfl,h1,xQ j x h2 λu hu=>hx u hu⟩
theorem TV {R:Ctx}:∀ {l:List SV} {vs:List Value} {j:Nat} {x:SV},SV.bA R l vs->l[j]? =some x->∃ v,vs[j]? =some v/\SV.rel R x v
 |y::l,vs,0,x,h,hx=>by
  simp only [SV.bA] at h
  obtain ⟨v,r,rfl,h1,h2⟩:=h
  cases hx
  exact ⟨v,rfl,h1⟩
 |y::l,vs,j+1,x,h,hx=>by
  simp only [SV.bA] at h
  obtain ⟨v,r,rfl,h1,h2⟩:=h
  exact TV (j:=j) h2 hx
 | [],_,_,_,_,hx=>by cases hx
theorem abI {R:Ctx} {w:World} (hm:cP R w) {c0 e0 j c e:Nat} {vs:List SV} {t:Ty} {xs:List t.T} (h0:R.hp c0=some ⟨e0,.cells vs⟩) (hj:vs[j]? =some (.own c e)) (hc:R.hp c=some ⟨e,.row t xs⟩) (hne:c≠c0):
 ∃ R1,cW R R1 w (auH c0 e0 vs j c e t xs):=by
 obtain ⟨R1,ha,hrel⟩:=XA hm hc
 have hch:=hm.ch c0 _ h0
 simp only [dT] at hch
 obtain ⟨L,hL,hF,hU,arr,E,k1,k2,k3,k4,k5⟩:=hch
 have h0':R1.hp c0=some ⟨e0,.cells vs⟩:=by
  rw [ha.hp]
  show (if c0=c then _ else R.hp c0)=_
  rw [if_neg (λe=>hne e.symm)]
  exact h0
 have hch1:=ha.mem.ch c0 _ h0'
 simp only [dT] at hch1
 obtain ⟨L1,hL1,hF1,hU1,arr1,E1,q1,q2,q3,q4,q5⟩:=hch1
 obtain ⟨ch',hc1,hep,hsame⟩:=ha.ext.ch c0 _ h0
 have hL1':R1.σ c0=R.σ c0:=by
  rw [h0'] at hc1
  cases hc1
  exact (hsame rfl).2
 rw [hL1',hL] at hL1
 cases hL1
 rw [k1] at q1
 cases q1
 obtain ⟨v,hv,hvr⟩:=TV k4 hj
 simp only [SV.rel] at hvr
 have hx:R1.Ext (R1.upd c0 ⟨e0,.cells (vs.set j (.lst t xs))⟩):=Ctx.S4 h0' (Nat.le_refl _) (λ_=>by simp only [Chunk.shape,List.length_set])
 refine ⟨R1.upd c0 ⟨e0,.cells (vs.set j (.lst t xs))⟩,ha.ext.trans hx,?_,?_⟩
 ·show (λn=>if n=c0 then some _ else R1.hp n)=_
  rw [ha.hp]
  rfl
 ·refine cP.turn ha.mem hx rfl rfl (λ_ _=>rfl) L.block (λ_ _ _=>rfl) ⟨hF1,hU1,λn ch2 L2 hn hn2 hm2 hs2 heq=>hn (ha.mem.apart n c0 _ _ L2 L hn2 h0' hm2 rfl hs2 (hL1'.trans hL) heq)⟩ ?_ (λL2 h2=> ?_)
  ·simp only [dT]
   refine ⟨L,hL1'.trans hL,hF1,hU1,arr,E,k1,k2,by rw [List.length_set];exact k3,?_,k5⟩
   refine SV.dl hx _ _ (xQ j _ q4 λu hu=> ?_)
   rw [hv] at hu
   cases hu
   exact hrel _ hvr.2
  ·have h3:R1.σ c0=some L2:=h2
   rw [hL1',hL] at h3
   cases h3
   rfl
end Sx
end Go.Proofs.Ythgjhpbapddpnaa

namespace Go.Proofs.Ythgjhpbapddpnaa
namespace Sx
open Go
def acD (u:List (Nat×Ch)) (c e:Nat):Option Chunk:=match dK aid u c with
 |some ⟨ep,b⟩=>cond (Nat.beq ep e) (some b) none
 |none=>none
theorem Jp {u:List (Nat×Ch)} {c e:Nat} {b:Chunk} (h:acD u c e=some b) {hp:Hp}:dK hp u c=some ⟨e,b⟩:=by
 unfold acD at h
 split at h
 ·rename_i ep b' hq
  cases hb:Nat.beq ep e
  ·rw [hb] at h;cases h
  ·rw [hb] at h
   cases h
   rw [Nat.eq_of_beq_eq_true hb] at hq
   by_cases hin:c ∈ be u
   ·rw [LF u hin (hp':=aid)];exact hq
   ·rw [cR u hin] at hq;cases hq
 ·cases h
def hop (u:List (Nat×Ch)):List Nat->SV->Option (Nat×Nat)
 | [],.ptr c e 0 0=>some (c,e)
 | [],.iface _ (.ptr c e 0 0)=>some (c,e)
 |i::r,.ptr c e 0 0=>match acD u c e with
  |some (.cells vs)=>hop u r (vs.getD i .bY)
  |_=>none
 |i::r,.iface _ (.ptr c e 0 0)=>match acD u c e with
  |some (.cells vs)=>hop u r (vs.getD i .bY)
  |_=>none
 |_,_=>none
def avr:SV->SV
 |.tup (x::_)=>x
 |x=>x
def awm (path:List Nat) (j:Nat) (v:SV) (u:List (Nat×Ch)):List (Nat×Ch):=
 match hop u path (avr v) with
 |some (c0,e0)=>match acD u c0 e0 with
  |some (.cells vs)=>match vs[j]? with
   |some (.own c e)=>match acD u c e with
    |some (.row t xs)=>cond (Nat.beq c c0) [] (auH c0 e0 vs j c e t xs)
    |_=> []
   |_=> []
  |_=> []
 |none=> []
def Out.awE (path:List Nat) (j:Nat):Out->Out
 |.ret e=>.ret ⟨e.v,e.upd++awm path j e.v e.upd⟩
 |.pan v u=>.pan v u
def sB (path:List Nat) (j:Nat) (s:bI):bI:=⟨s.mod,λd args hp=>(s.f d args hp).map (Out.awE path j)⟩
theorem aco {R R':Ctx} {w:World} {path:List Nat} {j:Nat} {v:SV} {u:List (Nat×Ch)} (h:cW R R' w u):∃ R1,cW R' R1 w (awm path j v u):=by
 unfold awm
 split
 ·rename_i c0 e0 _
  split
  ·rename_i vs h0
   split
   ·rename_i c e hj
    split
    ·rename_i t xs hc
     cases hb:Nat.beq c c0
     ·have hne:c≠c0:=λe=>by subst e;simp at hb
      exact abI h.mem (by rw [h.hp];exact Jp h0) hj (by rw [h.hp];exact Jp hc) hne
     ·exact ⟨R',cW.nothing h.mem⟩
    ·exact ⟨R',cW.nothing h.mem⟩
   ·exact ⟨R',cW.nothing h.mem⟩
  ·exact ⟨R',cW.nothing h.mem⟩
 ·exact ⟨R',cW.nothing h.mem⟩
theorem xJ {P:Program} {f:FuncId} {s:bI} {path:List Nat} {j:Nat} (h:aa P f s):aa P f (sB path j s):=by
 refine ⟨λR w d args vs out hm hr hrun=> ?_⟩
 simp only [sB] at hrun
 obtain ⟨out',h1,rfl⟩:=OT.run_map hrun
 have hpost:∀ en w',lb R out' en w'->lb R (Out.awE path j out') en w':=λen w' hp=>by
  cases out' with
  |ret q=>
   obtain ⟨v,R',h2,h3,h4⟩:=hp
   obtain ⟨R1,h5⟩:=aco (path:=path) (j:=j) (v:=q.v) h3
   exact ⟨v,R1,h2,h3.trans h5,SV.TU h5.ext _ _ h4⟩
  |pan q u=>exact hp
 rcases h.calls R w d args vs out' hm hr h1 with ⟨fn,f1,f2,f3,hcl⟩|⟨v,w',hv,hp⟩
 ·exact .inl ⟨fn,f1,f2,f3,hcl.mono hpost⟩
 ·exact .inr ⟨v,w',hv,hpost _ _ hp⟩
theorem oo {s:bI} {path:List Nat} {j:Nat} (h:aC s):aC (sB path j s):=λd args hp hp' out hg hrun=>by
 simp only [sB] at hrun⊢
 obtain ⟨out',h1,rfl⟩:=OT.run_map hrun
 exact UQ (h d args hp hp' out' hg h1)
def akf (s0 s1:bI):bI:=⟨s0.mod||s1.mod,λd args hp=>match args.getD 0 .bY with
 |.ptr _ _ _ 1=>s1.f d args hp
 |_=>s0.f d args hp⟩
theorem aoC {P:Program} {f:FuncId} {s0 s1:bI} (h0:aa P f s0) (h1:aa P f s1):aa P f (akf s0 s1):=by
 refine ⟨λR w d args vs out hm hr hrun=> ?_⟩
 simp only [akf] at hrun
 split at hrun
 ·exact h1.calls R w d args vs out hm hr hrun
 ·exact h0.calls R w d args vs out hm hr hrun
theorem adX {s0 s1:bI} (h0:aC s0) (h1:aC s1):aC (akf s0 s1):=λd args hp hp' out hg hrun=>by
 simp only [akf] at hrun⊢
 split at hrun
 ·exact h1 d args hp hp' out hg hrun
 ·exact h0 d args hp hp' out hg hrun
def oq (k:Nat) (s:bI):bI:=⟨true,λd args hp=>match args.getD k .bY with
 |.own c e=>match dU hp c e with
  |some (.row t xs)=>(s.f d (args.set k (.lst t xs)) (dK hp [(c,⟨e+1,.row .u8 []⟩)])).map (Out.after [(c,⟨e+1,.row .u8 []⟩)])
  |some _=>s.f d args hp
  |none=>.fail
 |_=>s.f d args hp⟩
theorem qu {P:Program} {f:FuncId} {s:bI} {k:Nat} (h:aa P f s):aa P f (oq k s):=by
 refine ⟨λR w d args vs out hm hr hrun=> ?_⟩
 simp only [oq] at hrun
 split at hrun
 ·rename_i c e harg
  split at hrun
  ·rename_i t xs hc
   obtain ⟨out',h1,rfl⟩:=OT.run_map hrun
   obtain ⟨R1,ha,hrel⟩:=XA hm (b9 hc)
   rw [<-show R1.hp=dK R.hp [(c,⟨e+1,.row .u8 []⟩)] from ha.hp] at h1
   have hr1:SV.bA R1 (args.set k (.lst t xs)) vs:=xQ k _ (SV.dl ha.ext _ _ hr) λv hv=>by
    have hk:args[k]? =some (.own c e):=by
     rw [List.getD_eq_getElem?_getD] at harg
     cases hq:args[k]? with
     |none=>rw [hq] at harg;cases harg
     |some y=>rw [hq] at harg;exact congrArg some harg
    obtain ⟨v',hv',hvr⟩:=TV hr hk
    rw [hv] at hv'
    cases hv'
    simp only [SV.rel] at hvr
    exact hrel v hvr.2
   have hpost:∀ en w',lb R1 out' en w'->lb R (Out.after [(c,⟨e+1,.row .u8 []⟩)] out') en w':=λen w' hp=>by
    cases out' with
    |ret q=>
     obtain ⟨v,R',h2,h3,h4⟩:=hp
     exact ⟨v,R',h2,ha.trans h3,h4⟩
    |pan q u=>
     obtain ⟨v,R',h2,h3,h4⟩:=hp
     exact ⟨v,R',h2,ha.trans h3,h4⟩
   rcases h.calls R1 w d _ vs out' ha.mem hr1 h1 with ⟨fn,f1,f2,f3,hcl⟩|⟨v,w',hv,hp⟩
   ·exact .inl ⟨fn,f1,f2,f3,hcl.mono hpost⟩
   ·exact .inr ⟨v,w',hv,hpost _ _ hp⟩
  ·exact h.calls R w d args vs out hm hr hrun
  ·cases hrun
 ·exact h.calls R w d args vs out hm hr hrun
theorem kE {s:bI} {k:Nat} (h:aC s):aC (oq k s):=λd args hp hp' out hg hrun=>by
 simp only [oq] at hrun⊢
 split at hrun
 ·split at hrun
  ·rename_i t xs hc
   rw [bT hg hc]
   simp only
   obtain ⟨out',h1,rfl⟩:=OT.run_map hrun
   refine UQ (h d _ _ _ out' ⟨λn ch hn=> ?_,λn hn hn0=> ?_⟩ h1)
   ·simp only [dK] at hn⊢
    split
    ·rename_i h2;rw [if_pos h2] at hn;exact hn
    ·rename_i h2;rw [if_neg h2] at hn;exact hg.iF _ _ hn
   ·simp only [dK] at hn0⊢
    split
    ·rename_i h2;rw [if_pos h2] at hn0;cases hn0
    ·rename_i h2;rw [if_neg h2] at hn0;exact hg.free _ hn hn0
  ·rename_i b hnr hc
   rw [bT hg hc]
   cases b<;>first|exact h _ _ _ _ _ hg hrun|exact absurd rfl (hnr _ _)
  ·cases hrun
 ·exact h _ _ _ _ _ hg hrun
end Sx
end Go.Proofs.Ythgjhpbapddpnaa

namespace Go.Proofs.Ythgjhpbapddpnaa
open Sx Go
set_option maxRecDepth 100000
def apw:TI:=⟨1,8,.other,[.bY],none⟩
theorem auQ:bo Try.prog 1 apw:=by apply aj<;>first|exact trivial|kernel_rfl
def apv:TI:=⟨1,8,.int .i64,[.int 0],some .int⟩
theorem auP:bo Try.prog 2 apv:=by apply aj<;>first|exact⟨by kernel_rfl,by kernel_rfl,by kernel_rfl⟩|kernel_rfl
def apu:TI:=⟨1,8,.int .i64,[.int 0],some .int⟩
theorem auO:bo Try.prog 3 apu:=by apply aj<;>first|exact⟨by kernel_rfl,by kernel_rfl,by kernel_rfl⟩|kernel_rfl
def apt:TI:=⟨1,1,.bool,[.bool false],some .bool⟩
theorem auN:bo Try.prog 4 apt:=by apply aj<;>first|exact⟨by kernel_rfl,by kernel_rfl,by kernel_rfl⟩|kernel_rfl
def XB:TI:=⟨1,1,.int .u8,[.u8 0],some .u8⟩
theorem auM:bo Try.prog 5 XB:=by apply aj<;>first|exact⟨by kernel_rfl,by kernel_rfl,by kernel_rfl⟩|kernel_rfl
def aps:TI:=⟨1,1,.int .u8,[.u8 0],some .u8⟩
theorem auL:bo Try.prog 6 aps:=by apply aj<;>first|exact⟨by kernel_rfl,by kernel_rfl,by kernel_rfl⟩|kernel_rfl
def apr:TI:=⟨4,24,.struct [(0,2),(1,3),(2,4),(3,6)],[.int 0,.int 0,.bool false,.u8 0],some (.prod .int (.prod .int (.prod .bool .u8)))⟩
theorem auK:bo Try.prog 7 apr:=by apply aj<;>first|exact⟨by kernel_rfl,by kernel_rfl,by kernel_rfl⟩|kernel_rfl
def apq:TI:=⟨4,24,.struct [(0,2),(1,3),(2,4),(3,6)],[.int 0,.int 0,.bool false,.u8 0],some (.prod .int (.prod .int (.prod .bool .u8)))⟩
theorem auJ:bo Try.prog 8 apq:=by apply aj<;>first|exact⟨by kernel_rfl,by kernel_rfl,by kernel_rfl⟩|kernel_rfl
def app:TI:=⟨1,16,.str,[.str []],some .str⟩
theorem auI:bo Try.prog 9 app:=by apply aj<;>first|exact⟨by kernel_rfl,by kernel_rfl,by kernel_rfl⟩|kernel_rfl
def agT:TI:=⟨1,16,.str,[.str []],some .str⟩
theorem asd:bo Try.prog 10 agT:=by apply aj<;>first|exact⟨by kernel_rfl,by kernel_rfl,by kernel_rfl⟩|kernel_rfl
def agS:TI:=⟨1,16,.str,[.str []],some .str⟩
theorem asc:bo Try.prog 11 agS:=by apply aj<;>first|exact⟨by kernel_rfl,by kernel_rfl,by kernel_rfl⟩|kernel_rfl
def agR:TI:=⟨1,8,.int .u64,[.u64 0],some .u64⟩
theorem asb:bo Try.prog 12 agR:=by apply aj<;>first|exact⟨by kernel_rfl,by kernel_rfl,by kernel_rfl⟩|kernel_rfl
def agQ:TI:=⟨1,8,.ptr [("Error",110),("RuntimeError",111)],[.ng],none⟩
theorem asa:bo Try.prog 15 agQ:=by apply aj<;>first|exact trivial|kernel_rfl
def agP:TI:=⟨1,8,.ptr [("Error",112),("RuntimeError",113)],[.ng],none⟩
theorem ar9:bo Try.prog 16 agP:=by apply aj<;>first|exact trivial|kernel_rfl
def agO:TI:=⟨1,8,.ptr [("Align",114)],[.ng],none⟩
theorem ar8:bo Try.prog 17 agO:=by apply aj<;>first|exact trivial|kernel_rfl
def agN:TI:=⟨1,16,.iface,[.cS],none⟩
theorem ar7:bo Try.prog 20 agN:=by apply aj<;>first|exact trivial|kernel_rfl
def agM:TI:=⟨1,4,.int .i32,[.bY],none⟩
theorem ar6:bo Try.prog 21 agM:=by apply aj<;>first|exact trivial|kernel_rfl
def agL:TI:=⟨1,8,.int .u64,[.u64 0],some .u64⟩
theorem ar5:bo Try.prog 22 agL:=by apply aj<;>first|exact⟨by kernel_rfl,by kernel_rfl,by kernel_rfl⟩|kernel_rfl
def agK:TI:=⟨4,32,.array 4 22,[.u64 0,.u64 0,.u64 0,.u64 0],some .elem⟩
theorem ar4:bo Try.prog 23 agK:=by apply aj<;>first|exact⟨by kernel_rfl,by kernel_rfl,by kernel_rfl⟩|kernel_rfl
def K5:TI:=⟨4,32,.array 4 22,[.u64 0,.u64 0,.u64 0,.u64 0],some .elem⟩
theorem ar3:bo Try.prog 24 K5:=by apply aj<;>first|exact⟨by kernel_rfl,by kernel_rfl,by kernel_rfl⟩|kernel_rfl
def agJ:TI:=⟨9,72,.struct [(0,24),(4,24),(8,4)],[.u64 0,.u64 0,.u64 0,.u64 0,.u64 0,.u64 0,.u64 0,.u64 0,.bool false],some (.prod .elem (.prod .elem .bool))⟩
theorem ar2:bo Try.prog 25 agJ:=by apply aj<;>first|exact⟨by kernel_rfl,by kernel_rfl,by kernel_rfl⟩|kernel_rfl
def agI:TI:=⟨9,72,.struct [(0,24),(4,24),(8,4)],[.u64 0,.u64 0,.u64 0,.u64 0,.u64 0,.u64 0,.u64 0,.u64 0,.bool false],some (.prod .elem (.prod .elem .bool))⟩
theorem ar1:bo Try.prog 26 agI:=by apply aj<;>first|exact⟨by kernel_rfl,by kernel_rfl,by kernel_rfl⟩|kernel_rfl
def Tx:TI:=⟨1,24,.slice 5,[.emp],some (.list .u8)⟩
theorem ar0:bo Try.prog 27 Tx:=by apply aj<;>first|exact⟨by kernel_rfl,by kernel_rfl,by kernel_rfl⟩|kernel_rfl
def agH:TI:=⟨1,8,.other,[.bY],none⟩
theorem arZ:bo Try.prog 28 agH:=by apply aj<;>first|exact trivial|kernel_rfl
def agG:TI:=⟨1,8,.other,[.bY],none⟩
theorem arY:bo Try.prog 29 agG:=by apply aj<;>first|exact trivial|kernel_rfl
def agF:TI:=⟨1,8,.int .i64,[.int 0],some .int⟩
theorem arX:bo Try.prog 30 agF:=by apply aj<;>first|exact⟨by kernel_rfl,by kernel_rfl,by kernel_rfl⟩|kernel_rfl
def agE:TI:=⟨1,8,.other,[.bY],none⟩
theorem arW:bo Try.prog 32 agE:=by apply aj<;>first|exact trivial|kernel_rfl
def agD:TI:=⟨1,8,.other,[.bY],none⟩
theorem arV:bo Try.prog 33 agD:=by apply aj<;>first|exact trivial|kernel_rfl
def agC:TI:=⟨1,8,.other,[.bY],none⟩
theorem arU:bo Try.prog 34 agC:=by apply aj<;>first|exact trivial|kernel_rfl
def agB:TI:=⟨1,8,.other,[.bY],none⟩
theorem arT:bo Try.prog 35 agB:=by apply aj<;>first|exact trivial|kernel_rfl
def Tw:TI:=⟨1,24,.slice 24,[.emp],some (.list .elem)⟩
theorem arS:bo Try.prog 36 Tw:=by apply aj<;>first|exact⟨by kernel_rfl,by kernel_rfl,by kernel_rfl⟩|kernel_rfl
def agA:TI:=⟨2,32,.struct [(0,3),(1,36)],[.int 0,.emp],some (.prod .int (.list .elem))⟩
theorem arR:bo Try.prog 37 agA:=by apply aj<;>first|exact⟨by kernel_rfl,by kernel_rfl,by kernel_rfl⟩|kernel_rfl
def agz:TI:=⟨2,32,.struct [(0,3),(1,36)],[.int 0,.emp],some (.prod .int (.list .elem))⟩
theorem arQ:bo Try.prog 38 agz:=by apply aj<;>first|exact⟨by kernel_rfl,by kernel_rfl,by kernel_rfl⟩|kernel_rfl
def agy:TI:=⟨1,24,.slice 46,[.emp],some (.list (.prod .int (.prod .elem (.prod .elem (.prod .elem .bool)))))⟩
theorem arP:bo Try.prog 39 agy:=by apply aj<;>first|exact⟨by kernel_rfl,by kernel_rfl,by kernel_rfl⟩|kernel_rfl
def agx:TI:=⟨1,8,.ptr [("Bytes",20),("Point",17),("Scalar",18),("sigil/tape.say",47)],[.ng],none⟩
theorem arO:bo Try.prog 40 agx:=by apply aj<;>first|exact trivial|kernel_rfl
def agw:TI:=⟨1,8,.other,[.bY],none⟩
theorem arN:bo Try.prog 42 agw:=by apply aj<;>first|exact trivial|kernel_rfl
def agv:TI:=⟨1,8,.other,[.bY],none⟩
theorem arM:bo Try.prog 43 agv:=by apply aj<;>first|exact trivial|kernel_rfl
def agu:TI:=⟨1,8,.other,[.bY],none⟩
theorem arL:bo Try.prog 44 agu:=by apply aj<;>first|exact trivial|kernel_rfl
def agt:TI:=⟨14,112,.struct [(0,3),(1,24),(5,26)],[.int 0,.u64 0,.u64 0,.u64 0,.u64 0,.u64 0,.u64 0,.u64 0,.u64 0,.u64 0,.u64 0,.u64 0,.u64 0,.bool false],some (.prod .int (.prod .elem (.prod .elem (.prod .elem .bool))))⟩
theorem arK:bo Try.prog 45 agt:=by apply aj<;>first|exact⟨by kernel_rfl,by kernel_rfl,by kernel_rfl⟩|kernel_rfl
def ags:TI:=⟨14,112,.struct [(0,3),(1,24),(5,26)],[.int 0,.u64 0,.u64 0,.u64 0,.u64 0,.u64 0,.u64 0,.u64 0,.u64 0,.u64 0,.u64 0,.u64 0,.u64 0,.bool false],some (.prod .int (.prod .elem (.prod .elem (.prod .elem .bool))))⟩
theorem arJ:bo Try.prog 46 ags:=by apply aj<;>first|exact⟨by kernel_rfl,by kernel_rfl,by kernel_rfl⟩|kernel_rfl
def agr:TI:=⟨1,8,.other,[.bY],none⟩
theorem arI:bo Try.prog 47 agr:=by apply aj<;>first|exact trivial|kernel_rfl
def agq:TI:=⟨1,16,.iface,[.cS],none⟩
theorem arH:bo Try.prog 48 agq:=by apply aj<;>first|exact trivial|kernel_rfl
def agp:TI:=⟨1,16,.iface,[.cS],none⟩
theorem arG:bo Try.prog 49 agp:=by apply aj<;>first|exact trivial|kernel_rfl
def ago:TI:=⟨2,24,.struct [(0,3),(1,49)],[.int 0,.cS],none⟩
theorem arF:bo Try.prog 50 ago:=by apply aj<;>first|exact trivial|kernel_rfl
def agn:TI:=⟨2,24,.struct [(0,3),(1,49)],[.int 0,.cS],none⟩
theorem arE:bo Try.prog 51 agn:=by apply aj<;>first|exact trivial|kernel_rfl
def agm:TI:=⟨3,48,.struct [(0,51),(2,27)],[.int 0,.cS,.emp],none⟩
theorem arD:bo Try.prog 52 agm:=by apply aj<;>first|exact trivial|kernel_rfl
def agl:TI:=⟨3,48,.struct [(0,51),(2,27)],[.int 0,.cS,.emp],none⟩
theorem arC:bo Try.prog 53 agl:=by apply aj<;>first|exact trivial|kernel_rfl
def agk:TI:=⟨1,8,.other,[.bY],none⟩
theorem arB:bo Try.prog 54 agk:=by apply aj<;>first|exact trivial|kernel_rfl
def agj:TI:=⟨1,8,.other,[.bY],none⟩
theorem arA:bo Try.prog 56 agj:=by apply aj<;>first|exact trivial|kernel_rfl
def agi:TI:=⟨1,8,.other,[.bY],none⟩
theorem arz:bo Try.prog 57 agi:=by apply aj<;>first|exact trivial|kernel_rfl
def agh:TI:=⟨1,8,.ptr [("Point",22),("Rest",25),("Scalar",23)],[.ng],none⟩
theorem ary:bo Try.prog 58 agh:=by apply aj<;>first|exact trivial|kernel_rfl
def agf:TI:=⟨1,8,.other,[.bY],none⟩
theorem arx:bo Try.prog 60 agf:=by apply aj<;>first|exact trivial|kernel_rfl
def age:TI:=⟨3,48,.struct [(0,51),(2,27)],[.int 0,.cS,.emp],none⟩
theorem arw:bo Try.prog 61 age:=by apply aj<;>first|exact trivial|kernel_rfl
def agd:TI:=⟨3,48,.struct [(0,51),(2,27)],[.int 0,.cS,.emp],none⟩
theorem arv:bo Try.prog 62 agd:=by apply aj<;>first|exact trivial|kernel_rfl
def agc:TI:=⟨1,8,.other,[.bY],none⟩
theorem aru:bo Try.prog 63 agc:=by apply aj<;>first|exact trivial|kernel_rfl
def agb:TI:=⟨1,8,.other,[.bY],none⟩
theorem art:bo Try.prog 64 agb:=by apply aj<;>first|exact trivial|kernel_rfl
def aga:TI:=⟨1,8,.other,[.bY],none⟩
theorem ars:bo Try.prog 65 aga:=by apply aj<;>first|exact trivial|kernel_rfl
def af9:TI:=⟨1,8,.other,[.bY],none⟩
theorem arq:bo Try.prog 66 af9:=by apply aj<;>first|exact trivial|kernel_rfl
def af8:TI:=⟨1,8,.other,[.bY],none⟩
theorem arp:bo Try.prog 67 af8:=by apply aj<;>first|exact trivial|kernel_rfl
def af7:TI:=⟨1,8,.other,[.bY],none⟩
theorem aro:bo Try.prog 68 af7:=by apply aj<;>first|exact trivial|kernel_rfl
def af6:TI:=⟨1,8,.other,[.bY],none⟩
theorem arn:bo Try.prog 69 af6:=by apply aj<;>first|exact trivial|kernel_rfl
def af5:TI:=⟨1,8,.other,[.bY],none⟩
theorem arm:bo Try.prog 70 af5:=by apply aj<;>first|exact trivial|kernel_rfl
def af4:TI:=⟨1,8,.other,[.bY],none⟩
theorem arl:bo Try.prog 72 af4:=by apply aj<;>first|exact trivial|kernel_rfl
def af3:TI:=⟨1,8,.int .u64,[.u64 0],some .u64⟩
theorem ark:bo Try.prog 73 af3:=by apply aj<;>first|exact⟨by kernel_rfl,by kernel_rfl,by kernel_rfl⟩|kernel_rfl
def af2:TI:=⟨1,8,.other,[.bY],none⟩
theorem arj:bo Try.prog 74 af2:=by apply aj<;>first|exact trivial|kernel_rfl
def af1:TI:=⟨1,8,.other,[.bY],none⟩
theorem ari:bo Try.prog 75 af1:=by apply aj<;>first|exact trivial|kernel_rfl
def af0:TI:=⟨1,8,.other,[.bY],none⟩
theorem arh:bo Try.prog 76 af0:=by apply aj<;>first|exact trivial|kernel_rfl
def afZ:TI:=⟨1,8,.other,[.bY],none⟩
theorem arf:bo Try.prog 77 afZ:=by apply aj<;>first|exact trivial|kernel_rfl
def afY:TI:=⟨1,8,.other,[.bY],none⟩
theorem ard:bo Try.prog 79 afY:=by apply aj<;>first|exact trivial|kernel_rfl
def afX:TI:=⟨1,8,.other,[.bY],none⟩
theorem arc:bo Try.prog 80 afX:=by apply aj<;>first|exact trivial|kernel_rfl
def afW:TI:=⟨1,8,.ptr [("Challenge",19),("Curve",118),("Hear",16)],[.ng],none⟩
theorem arb:bo Try.prog 81 afW:=by apply aj<;>first|exact trivial|kernel_rfl
def afV:TI:=⟨1,8,.other,[.bY],none⟩
theorem ara:bo Try.prog 82 afV:=by apply aj<;>first|exact trivial|kernel_rfl
def afU:TI:=⟨1,8,.other,[.bY],none⟩
theorem aq9:bo Try.prog 83 afU:=by apply aj<;>first|exact trivial|kernel_rfl
def afT:TI:=⟨1,8,.other,[.bY],none⟩
theorem aq8:bo Try.prog 84 afT:=by apply aj<;>first|exact trivial|kernel_rfl
def afS:TI:=⟨1,8,.other,[.bY],none⟩
theorem aq7:bo Try.prog 85 afS:=by apply aj<;>first|exact trivial|kernel_rfl
def afR:TI:=⟨1,8,.other,[.bY],none⟩
theorem aq6:bo Try.prog 86 afR:=by apply aj<;>first|exact trivial|kernel_rfl
def afQ:TI:=⟨1,8,.other,[.bY],none⟩
theorem aq5:bo Try.prog 87 afQ:=by apply aj<;>first|exact trivial|kernel_rfl
def afP:TI:=⟨1,8,.other,[.bY],none⟩
theorem aq4:bo Try.prog 88 afP:=by apply aj<;>first|exact trivial|kernel_rfl
def afO:TI:=⟨1,8,.other,[.bY],none⟩
theorem aq3:bo Try.prog 89 afO:=by apply aj<;>first|exact trivial|kernel_rfl
def afN:TI:=⟨1,8,.int .i64,[.int 0],some .int⟩
theorem aq2:bo Try.prog 90 afN:=by apply aj<;>first|exact⟨by kernel_rfl,by kernel_rfl,by kernel_rfl⟩|kernel_rfl
def afM:TI:=⟨12,96,.struct [(0,24),(4,24),(8,24)],List.replicate 12 (.u64 0),some (.prod .elem (.prod .elem .elem))⟩
theorem aq1:bo Try.prog 91 afM:=by apply aj<;>first|exact⟨by kernel_rfl,by kernel_rfl,by kernel_rfl⟩|kernel_rfl
def afL:TI:=⟨12,96,.struct [(0,24),(4,24),(8,24)],List.replicate 12 (.u64 0),some (.prod .elem (.prod .elem .elem))⟩
theorem aq0:bo Try.prog 92 afL:=by apply aj<;>first|exact⟨by kernel_rfl,by kernel_rfl,by kernel_rfl⟩|kernel_rfl
def afK:TI:=⟨1,8,.other,[.bY],none⟩
theorem aqZ:bo Try.prog 93 afK:=by apply aj<;>first|exact trivial|kernel_rfl
def afJ:TI:=⟨1,8,.other,[.bY],none⟩
theorem aqY:bo Try.prog 94 afJ:=by apply aj<;>first|exact trivial|kernel_rfl
def afI:TI:=⟨1,8,.other,[.bY],none⟩
theorem aqX:bo Try.prog 95 afI:=by apply aj<;>first|exact trivial|kernel_rfl
def afH:TI:=⟨1,8,.other,[.bY],none⟩
theorem aqW:bo Try.prog 96 afH:=by apply aj<;>first|exact trivial|kernel_rfl
def afG:TI:=⟨1,8,.other,[.bY],none⟩
theorem aqV:bo Try.prog 97 afG:=by apply aj<;>first|exact trivial|kernel_rfl
def afF:TI:=⟨11,88,.struct [(0,24),(4,3),(5,22),(6,22),(7,24)],[.u64 0,.u64 0,.u64 0,.u64 0,.int 0,.u64 0,.u64 0,.u64 0,.u64 0,.u64 0,.u64 0],some (.prod .elem (.prod .int (.prod .u64 (.prod .u64 .elem))))⟩
theorem aqU:bo Try.prog 98 afF:=by apply aj<;>first|exact⟨by kernel_rfl,by kernel_rfl,by kernel_rfl⟩|kernel_rfl
def afE:TI:=⟨11,88,.struct [(0,24),(4,3),(5,22),(6,22),(7,24)],[.u64 0,.u64 0,.u64 0,.u64 0,.int 0,.u64 0,.u64 0,.u64 0,.u64 0,.u64 0,.u64 0],some (.prod .elem (.prod .int (.prod .u64 (.prod .u64 .elem))))⟩
theorem aqT:bo Try.prog 99 afE:=by apply aj<;>first|exact⟨by kernel_rfl,by kernel_rfl,by kernel_rfl⟩|kernel_rfl
def YA:TI:=⟨1,8,.other,[.bY],none⟩
theorem amE:bo Try.prog 101 YA:=by apply aj<;>first|exact trivial|kernel_rfl
def Yz:TI:=⟨1,8,.other,[.bY],none⟩
theorem amD:bo Try.prog 102 Yz:=by apply aj<;>first|exact trivial|kernel_rfl
def Yy:TI:=⟨1,8,.other,[.bY],none⟩
theorem amC:bo Try.prog 103 Yy:=by apply aj<;>first|exact trivial|kernel_rfl
def Yx:TI:=⟨1,8,.other,[.bY],none⟩
theorem amB:bo Try.prog 104 Yx:=by apply aj<;>first|exact trivial|kernel_rfl
def Yw:TI:=⟨1,8,.other,[.bY],none⟩
theorem amA:bo Try.prog 105 Yw:=by apply aj<;>first|exact trivial|kernel_rfl
def Yv:TI:=⟨1,8,.other,[.bY],none⟩
theorem amz:bo Try.prog 107 Yv:=by apply aj<;>first|exact trivial|kernel_rfl
def Yu:TI:=⟨1,8,.other,[.bY],none⟩
theorem amy:bo Try.prog 108 Yu:=by apply aj<;>first|exact trivial|kernel_rfl
def Yt:TI:=⟨1,8,.ptr [("sigil/tape.next",119),("sigil/tape.take",120)],[.ng],none⟩
theorem amx:bo Try.prog 109 Yt:=by apply aj<;>first|exact trivial|kernel_rfl
def Ys:TI:=⟨1,24,.struct [(0,36)],[.emp],some (.list .elem)⟩
theorem amw:bo Try.prog 110 Ys:=by apply aj<;>first|exact⟨by kernel_rfl,by kernel_rfl,by kernel_rfl⟩|kernel_rfl
def Yr:TI:=⟨1,24,.struct [(0,36)],[.emp],some (.list .elem)⟩
theorem amv:bo Try.prog 111 Yr:=by apply aj<;>first|exact⟨by kernel_rfl,by kernel_rfl,by kernel_rfl⟩|kernel_rfl
def Yq:TI:=⟨2,32,.struct [(0,3),(1,111)],[.int 0,.emp],some (.prod .int (.list .elem))⟩
theorem amu:bo Try.prog 112 Yq:=by apply aj<;>first|exact⟨by kernel_rfl,by kernel_rfl,by kernel_rfl⟩|kernel_rfl
def Yp:TI:=⟨2,32,.struct [(0,3),(1,111)],[.int 0,.emp],some (.prod .int (.list .elem))⟩
theorem amt:bo Try.prog 113 Yp:=by apply aj<;>first|exact⟨by kernel_rfl,by kernel_rfl,by kernel_rfl⟩|kernel_rfl
def Yo:TI:=⟨1,8,.ptr [("Sum",122),("Write",127)],[.ng],none⟩
theorem ams:bo Try.prog 114 Yo:=by apply aj<;>first|exact trivial|kernel_rfl
def Yn:TI:=⟨1,8,.other,[.bY],none⟩
theorem amr:bo Try.prog 116 Yn:=by apply aj<;>first|exact trivial|kernel_rfl
def Ym:TI:=⟨1,8,.ptr [("sigil/tape.next",123),("sigil/tape.take",124)],[.ng],none⟩
theorem amq:bo Try.prog 117 Ym:=by apply aj<;>first|exact trivial|kernel_rfl
def Yl:TI:=⟨2,16,.struct [(0,3),(1,114)],[.int 0,.ng],none⟩
theorem amp:bo Try.prog 118 Yl:=by apply aj<;>first|exact trivial|kernel_rfl
def Yk:TI:=⟨2,16,.struct [(0,3),(1,114)],[.int 0,.ng],none⟩
theorem amo:bo Try.prog 119 Yk:=by apply aj<;>first|exact trivial|kernel_rfl
def Yj:TI:=⟨1,8,.other,[.bY],none⟩
theorem amn:bo Try.prog 120 Yj:=by apply aj<;>first|exact trivial|kernel_rfl
def Yi:TI:=⟨1,8,.other,[.bY],none⟩
theorem amm:bo Try.prog 122 Yi:=by apply aj<;>first|exact trivial|kernel_rfl
def Yh:TI:=⟨4,32,.array 4 3,[.int 0,.int 0,.int 0,.int 0],some (.arr 4 .int)⟩
theorem aml:bo Try.prog 123 Yh:=by apply aj<;>first|exact⟨by kernel_rfl,by kernel_rfl,by kernel_rfl⟩|kernel_rfl
def Yg:TI:=⟨8,64,.array 8 22,[.u64 0,.u64 0,.u64 0,.u64 0,.u64 0,.u64 0,.u64 0,.u64 0],some (.arr 8 .u64)⟩
theorem amk:bo Try.prog 124 Yg:=by apply aj<;>first|exact⟨by kernel_rfl,by kernel_rfl,by kernel_rfl⟩|kernel_rfl
def Yf:TI:=⟨1,8,.other,[.bY],none⟩
theorem amj:bo Try.prog 125 Yf:=by apply aj<;>first|exact trivial|kernel_rfl
def Ye:TI:=⟨11,104,.struct [(0,3),(1,124),(9,27),(10,22)],[.int 0,.u64 0,.u64 0,.u64 0,.u64 0,.u64 0,.u64 0,.u64 0,.u64 0,.emp,.u64 0],some (.prod .int (.prod (.arr 8 .u64) (.prod (.list .u8) .u64)))⟩
theorem ami:bo Try.prog 126 Ye:=by apply aj<;>first|exact⟨by kernel_rfl,by kernel_rfl,by kernel_rfl⟩|kernel_rfl
def Yd:TI:=⟨11,104,.struct [(0,3),(1,124),(9,27),(10,22)],[.int 0,.u64 0,.u64 0,.u64 0,.u64 0,.u64 0,.u64 0,.u64 0,.u64 0,.emp,.u64 0],some (.prod .int (.prod (.arr 8 .u64) (.prod (.list .u8) .u64)))⟩
theorem amh:bo Try.prog 127 Yd:=by apply aj<;>first|exact⟨by kernel_rfl,by kernel_rfl,by kernel_rfl⟩|kernel_rfl
def Yc:TI:=⟨16,16,.array 16 5,List.replicate 16 (.u8 0),some (.arr 16 .u8)⟩
theorem amg:bo Try.prog 128 Yc:=by apply aj<;>first|exact⟨by kernel_rfl,by kernel_rfl,by kernel_rfl⟩|kernel_rfl
def Yb:TI:=⟨1,8,.other,[.bY],none⟩
theorem amf:bo Try.prog 129 Yb:=by apply aj<;>first|exact trivial|kernel_rfl
def Ya:TI:=⟨1,16,.iface,[.cS],none⟩
theorem ame:bo Try.prog 130 Ya:=by apply aj<;>first|exact trivial|kernel_rfl
def X9:TI:=⟨1,16,.iface,[.cS],none⟩
theorem amd:bo Try.prog 131 X9:=by apply aj<;>first|exact trivial|kernel_rfl
def X8:TI:=⟨1,8,.other,[.bY],none⟩
theorem amc:bo Try.prog 132 X8:=by apply aj<;>first|exact trivial|kernel_rfl
def X7:TI:=⟨6,48,.array 6 22,[.u64 0,.u64 0,.u64 0,.u64 0,.u64 0,.u64 0],some (.arr 6 .u64)⟩
theorem amb:bo Try.prog 133 X7:=by apply aj<;>first|exact⟨by kernel_rfl,by kernel_rfl,by kernel_rfl⟩|kernel_rfl
def X6:TI:=⟨1,8,.other,[.bY],none⟩
theorem ama:bo Try.prog 134 X6:=by apply aj<;>first|exact trivial|kernel_rfl
def X5:TI:=⟨1,24,.slice 22,[.emp],some (.list .u64)⟩
theorem al9:bo Try.prog 135 X5:=by apply aj<;>first|exact⟨by kernel_rfl,by kernel_rfl,by kernel_rfl⟩|kernel_rfl
def X4:TI:=⟨1,8,.other,[.bY],none⟩
theorem al8:bo Try.prog 136 X4:=by apply aj<;>first|exact trivial|kernel_rfl
def X3:TI:=⟨1,8,.ptr [("Error",135)],[.ng],none⟩
theorem al7:bo Try.prog 137 X3:=by apply aj<;>first|exact trivial|kernel_rfl
def X2:TI:=⟨1,8,.other,[.bY],none⟩
theorem al6:bo Try.prog 138 X2:=by apply aj<;>first|exact trivial|kernel_rfl
def X1:TI:=⟨0,0,.array 0 16,[],none⟩
theorem al5:bo Try.prog 141 X1:=by apply aj<;>first|exact trivial|kernel_rfl
def X0:TI:=⟨1,4,.int .u32,[.bY],none⟩
theorem al4:bo Try.prog 144 X0:=by apply aj<;>first|exact trivial|kernel_rfl
def XZ:TI:=⟨1,1,.int .u8,[.u8 0],some .u8⟩
theorem al3:bo Try.prog 145 XZ:=by apply aj<;>first|exact⟨by kernel_rfl,by kernel_rfl,by kernel_rfl⟩|kernel_rfl
def XY:TI:=⟨1,1,.int .u8,[.u8 0],some .u8⟩
theorem al2:bo Try.prog 146 XY:=by apply aj<;>first|exact⟨by kernel_rfl,by kernel_rfl,by kernel_rfl⟩|kernel_rfl
def XX:TI:=⟨1,8,.other,[.bY],none⟩
theorem al1:bo Try.prog 147 XX:=by apply aj<;>first|exact trivial|kernel_rfl
def XW:TI:=⟨1,8,.ptr [],[.ng],none⟩
theorem al0:bo Try.prog 148 XW:=by apply aj<;>first|exact trivial|kernel_rfl
def XV:TI:=⟨1,4,.int .i32,[.bY],none⟩
theorem alZ:bo Try.prog 149 XV:=by apply aj<;>first|exact trivial|kernel_rfl
def XU:TI:=⟨1,4,.int .i32,[.bY],none⟩
theorem alY:bo Try.prog 150 XU:=by apply aj<;>first|exact trivial|kernel_rfl
def XT:TI:=⟨1,8,.ptr [("Next",121)],[.ng],none⟩
theorem alX:bo Try.prog 153 XT:=by apply aj<;>first|exact trivial|kernel_rfl
def XS:TI:=⟨128,128,.array 128 5,List.replicate 128 (.u8 0),some (.arr 128 .u8)⟩
theorem alW:bo Try.prog 154 XS:=by apply aj<;>first|exact⟨by kernel_rfl,by kernel_rfl,by kernel_rfl⟩|kernel_rfl
def XR:TI:=⟨1,8,.other,[.bY],none⟩
theorem alV:bo Try.prog 155 XR:=by apply aj<;>first|exact trivial|kernel_rfl
def XQ:TI:=⟨1,8,.other,[.bY],none⟩
theorem alU:bo Try.prog 156 XQ:=by apply aj<;>first|exact trivial|kernel_rfl
def XP:TI:=⟨1,8,.other,[.bY],none⟩
theorem alT:bo Try.prog 157 XP:=by apply aj<;>first|exact trivial|kernel_rfl
def XO:TI:=⟨16,128,.array 16 22,List.replicate 16 (.u64 0),some (.arr 16 .u64)⟩
theorem alS:bo Try.prog 158 XO:=by apply aj<;>first|exact⟨by kernel_rfl,by kernel_rfl,by kernel_rfl⟩|kernel_rfl
def XN:TI:=⟨16,128,.array 16 22,List.replicate 16 (.u64 0),some (.arr 16 .u64)⟩
theorem alR:bo Try.prog 159 XN:=by apply aj<;>first|exact⟨by kernel_rfl,by kernel_rfl,by kernel_rfl⟩|kernel_rfl
def XM:TI:=⟨10,160,.array 10 9,List.replicate 10 (.str []),some (.arr 10 .str)⟩
theorem alQ:bo Try.prog 160 XM:=by apply aj<;>first|exact⟨by kernel_rfl,by kernel_rfl,by kernel_rfl⟩|kernel_rfl
def XL:TI:=⟨1,8,.other,[.bY],none⟩
theorem alP:bo Try.prog 161 XL:=by apply aj<;>first|exact trivial|kernel_rfl
def XK:TI:=⟨1,8,.other,[.bY],none⟩
theorem alO:bo Try.prog 162 XK:=by apply aj<;>first|exact trivial|kernel_rfl
def XJ:TI:=⟨1,8,.other,[.bY],none⟩
theorem alN:bo Try.prog 163 XJ:=by apply aj<;>first|exact trivial|kernel_rfl
def XI:TI:=⟨8,64,.array 2 24,[.u64 0,.u64 0,.u64 0,.u64 0,.u64 0,.u64 0,.u64 0,.u64 0],some (.arr 2 .elem)⟩
theorem alM:bo Try.prog 164 XI:=by apply aj<;>first|exact⟨by kernel_rfl,by kernel_rfl,by kernel_rfl⟩|kernel_rfl
def XH:TI:=⟨1,8,.other,[.bY],none⟩
theorem alL:bo Try.prog 166 XH:=by apply aj<;>first|exact trivial|kernel_rfl
def XG:TI:=⟨1,8,.ptr [("sigil/blake.mix",132)],[.ng],none⟩
theorem alK:bo Try.prog 167 XG:=by apply aj<;>first|exact trivial|kernel_rfl
def XF:TI:=⟨1,8,.other,[.bY],none⟩
theorem alJ:bo Try.prog 168 XF:=by apply aj<;>first|exact trivial|kernel_rfl
def XE:TI:=⟨1,16,.struct [(0,9)],[.str []],some .str⟩
theorem alI:bo Try.prog 169 XE:=by apply aj<;>first|exact⟨by kernel_rfl,by kernel_rfl,by kernel_rfl⟩|kernel_rfl
def XD:TI:=⟨1,16,.struct [(0,9)],[.str []],some .str⟩
theorem alH:bo Try.prog 170 XD:=by apply aj<;>first|exact⟨by kernel_rfl,by kernel_rfl,by kernel_rfl⟩|kernel_rfl
def XC:TI:=⟨1,8,.other,[.ng],none⟩
theorem alG:bo Try.prog 171 XC:=by apply aj<;>first|exact trivial|kernel_rfl
def te:TE:=(az 1 apw (az 2 apv (az 3 apu (az 4 apt (az 5 XB (az 6 aps (az 7 apr (az 8 apq (az 9 app (az 10 agT (az 11 agS (az 12 agR (az 15 agQ (az 16 agP (az 17 agO (az 20 agN (az 21 agM (az 22 agL (az 23 agK (az 24 K5 (az 25 agJ (az 26 agI (az 27 Tx (az 28 agH (az 29 agG (az 30 agF (az 32 agE (az 33 agD (az 34 agC (az 35 agB (az 36 Tw (az 37 agA (az 38 agz (az 39 agy (az 40 agx (az 42 agw (az 43 agv (az 44 agu (az 45 agt (az 46 ags (az 47 agr (az 48 agq (az 49 agp (az 50 ago (az 51 agn (az 52 agm (az 53 agl (az 54 agk (az 56 agj (az 57 agi (az 58 agh (az 60 agf (az 61 age (az 62 agd (az 63 agc (az 64 agb (az 65 aga (az 66 af9 (az 67 af8 (az 68 af7 (az 69 af6 (az 70 af5 (az 72 af4 (az 73 af3 (az 74 af2 (az 75 af1 (az 76 af0 (az 77 afZ (az 79 afY (az 80 afX (az 81 afW (az 82 afV (az 83 afU (az 84 afT (az 85 afS (az 86 afR (az 87 afQ (az 88 afP (az 89 afO (az 90 afN (az 91 afM (az 92 afL (az 93 afK (az 94 afJ (az 95 afI (az 96 afH (az 97 afG (az 98 afF (az 99 afE (az 101 YA (az 102 Yz (az 103 Yy (az 104 Yx (az 105 Yw (az 107 Yv (az 108 Yu (az 109 Yt (az 110 Ys (az 111 Yr (az 112 Yq (az 113 Yp (az 114 Yo (az 116 Yn (az 117 Ym (az 118 Yl (az 119 Yk (az 120 Yj (az 122 Yi (az 123 Yh (az 124 Yg (az 125 Yf (az 126 Ye (az 127 Yd (az 128 Yc (az 129 Yb (az 130 Ya (az 131 X9 (az 132 X8 (az 133 X7 (az 134 X6 (az 135 X5 (az 136 X4 (az 137 X3 (az 138 X2 (az 141 X1 (az 144 X0 (az 145 XZ (az 146 XY (az 147 XX (az 148 XW (az 149 XV (az 150 XU (az 153 XT (az 154 XS (az 155 XR (az 156 XQ (az 157 XP (az 158 XO (az 159 XN (az 160 XM (az 161 XL (az 162 XK (az 163 XJ (az 164 XI (az 166 XH (az 167 XG (az 168 XF (az 169 XE (az 170 XD (az 171 XC auR))))))))))))))))))))))))))))))))))))))))))))))))))))))))))))))))))))))))))))))))))))))))))))))))))))))))))))))))))))))))))))))))))))))))))))))))))))))
theorem ap:kA Try.prog te:=(ae auQ (ae auP (ae auO (ae auN (ae auM (ae auL (ae auK (ae auJ (ae auI (ae asd (ae asc (ae asb (ae asa (ae ar9 (ae ar8 (ae ar7 (ae ar6 (ae ar5 (ae ar4 (ae ar3 (ae ar2 (ae ar1 (ae ar0 (ae arZ (ae arY (ae arX (ae arW (ae arV (ae arU (ae arT (ae arS (ae arR (ae arQ (ae arP (ae arO (ae arN (ae arM (ae arL (ae arK (ae arJ (ae arI (ae arH (ae arG (ae arF (ae arE (ae arD (ae arC (ae arB (ae arA (ae arz (ae ary (ae arx (ae arw (ae arv (ae aru (ae art (ae ars (ae arq (ae arp (ae aro (ae arn (ae arm (ae arl (ae ark (ae arj (ae ari (ae arh (ae arf (ae ard (ae arc (ae arb (ae ara (ae aq9 (ae aq8 (ae aq7 (ae aq6 (ae aq5 (ae aq4 (ae aq3 (ae aq2 (ae aq1 (ae aq0 (ae aqZ (ae aqY (ae aqX (ae aqW (ae aqV (ae aqU (ae aqT (ae amE (ae amD (ae amC (ae amB (ae amA (ae amz (ae amy (ae amx (ae amw (ae amv (ae amu (ae amt (ae ams (ae amr (ae amq (ae amp (ae amo (ae amn (ae amm (ae aml (ae amk (ae amj (ae ami (ae amh (ae amg (ae amf (ae ame (ae amd (ae amc (ae amb (ae ama (ae al9 (ae al8 (ae al7 (ae al6 (ae al5 (ae al4 (ae al3 (ae al2 (ae al1 (ae al0 (ae alZ (ae alY (ae alX (ae alW (ae alV (ae alU (ae alT (ae alS (ae alR (ae alQ (ae alP (ae alO (ae alN (ae alM (ae alL (ae alK (ae alJ (ae alI (ae alH (ae alG amF))))))))))))))))))))))))))))))))))))))))))))))))))))))))))))))))))))))))))))))))))))))))))))))))))))))))))))))))))))))))))))))))))))))))))))))))))))))
theorem follows:Try.prog.follows .mixedOrders=true:=by kernel_rfl
def E0:Env:=ajN
theorem apc:aI Try.prog E0:=ajM
theorem ala:aq E0:=VQ
theorem ap8:aP Try.prog te E0:=aF follows ap apc ala
end Go.Proofs.Ythgjhpbapddpnaa

namespace Go.Proofs.Ythgjhpbapddpnaa
open Sx Go
def xl (b:List UInt8) (k:Nat):UInt64:=(List.range k).foldl (λv (i:Nat)=>v|||bL (UInt8.toUInt64 (b.getD i 0)) (8*(i:Int))) 0
theorem aa1 (b:List UInt8) (k:Nat):xl b (k+1)=xl b k|||bL (UInt8.toUInt64 (b.getD k 0)) (8*(k:Int)):=by
 simp [xl,List.range_succ]
end Go.Proofs.Ythgjhpbapddpnaa

namespace Go.Proofs.Ythgjhpbapddpnaa
open Sx Go
set_option maxRecDepth 100000
def kk:ao:=⟨[.val false (.list .u8)],[],true,0,false⟩
abbrev Kc:Type:=((List (UInt8))×Unit)×(Unit)
def vN:Shape:=⟨22,[(3,.val false .u64),(6,.val false (.list .u8)),(7,.val false .int),(8,.val false .int)],[],0,true⟩
abbrev cK:Type:=((UInt64)×(List (UInt8))×(Int)×(Int)×Unit)×(Unit)
def rj:Shape:=⟨22,[(3,.val false .u64)],[],0,true⟩
abbrev kj:Type:=((UInt64)×Unit)×(Unit)
def aat:SE->Option Shape:=kv [(0,rj)] none
def MV (a3:UInt64) (a6:List (UInt8)) (a7:Int) (a8:Int):OT (Sum cK aJ):=
 (.br (decide (a8<a7))
 (gd [inB a8 (List.length a6),inR ((8:Int)*a8),decide ((0:Int)<=(8:Int)*a8),inR (a8+(1:Int))] (.ok (.inl ((a3|||bL (UInt8.toUInt64 (List.getD a6 (Int.toNat a8) (0:UInt8))) ((8:Int)*a8),(a6,(a7,(a8+(1:Int),())))),()))))
 (.ok (.inr ⟨(.exit 0,rj),((a3,()),())⟩)))
def nE (s:cK):OT (Sum cK aJ):=MV (s.1.1) (s.1.2.1) (s.1.2.2.1) (s.1.2.2.2.1)
theorem aoE (s:cK) (Q:Sum cK aJ->Prop):wps te E0 ay 1000 (bk (al Try.f96) 0) (vN.inj s) (cO vN aat (Q:Sum vN.T aJ->Prop))=(nE s).wpR Q:=by kernel_rfl
def Cg (g0_0:cK->kj) (s:cK):OT aJ:=(.ok ⟨(.exit 0,rj),g0_0 s⟩)
def MU:ar:=⟨[.val false .u64],[],false⟩
def Rc:SV->Option ar:=λ_=>some MU
def V4 (ok0:cK->Bool) (g0_0:cK->kj) (a0:List (UInt8)):OT kk.Y:=
 let z0:(UInt64×List UInt8×Int×Int×PUnit)×PUnit:=(((0:UInt64),a0,(↑(List.length a0):Int),(0:Int),()),())
 (gd [ok0 z0] (.ok ⟨MU,(((g0_0 z0).fst.fst,()),())⟩))
theorem atS (ok0:cK->Bool) (g0_0:cK->kj) (x:Kc) (Q:kk.Y->Prop):wpf te E0 (bu 0 (dq vN 0 ok0 (Cg g0_0)) ay) 1000 Try.f96 (kk.inp.inj x).tm (kk.inp.inj x).hp (fnK kk Rc Q) (λ_ _=>False)=(V4 ok0 g0_0 (x.1.1)).wpR Q:=by kernel_rfl
theorem adZ (ok0:cK->Bool) (g0_0:cK->kj) (h0:∀ s:cK,ok0 s=true->∃ m e,aA (nE) m s=some e/\(Cg g0_0 s).run=some e) (pre:Kc->Bool) (F:Kc->OT kk.Y) (hF:∀ (x:Kc) oy,pre x=true->(F x).run=some oy->(V4 ok0 g0_0 (x.1.1)).run=some oy):aa Try.prog 96 (kk.aD pre F):=
 aB ap apc ap8 (f:=96) (fn:=Try.f96) (c:=al Try.f96) (by kernel_rfl) (by kernel_rfl) (by kernel_rfl) (S:=kk) (k:=0) (by kernel_rfl) (λR hR=>(aH (c:=(al Try.f96)) (by kernel_rfl) (id:=0) (by kernel_rfl) (bn ap apc ap8 (sh:=vN) hR (xs:=aat) (aG (by kernel_rfl) (by kernel_rfl) hR) aV af (n:=1000) (T:=nE) (λs Q=>aoE s Q) (ok:=ok0) (f:=Cg g0_0) h0) af)) (n:=1000) (sel:=Rc) (λv o h=>by cases h;rfl) (pre:=pre) (F:=F) (T:=λx=>V4 ok0 g0_0 (x.1.1)) (λx Q=>atS ok0 g0_0 x Q) hF
def Rd (s:cK):Bool:=decide (s.1.1=0/\s.1.2.2.1=(s.1.2.1.length:Int)/\s.1.2.2.2.1=0/\s.1.2.1.length<=4096)
def aau (s:cK):kj:=((xl s.1.2.1 s.1.2.1.length,()),())
theorem aoG:∀ s,Rd s=true->∃ m e,aA nE m s=some e/\(Cg aau s).run=some e:=by
 rintro ⟨⟨v,b,n,i,⟨⟩⟩,⟨⟩⟩ h
 have h':=of_decide_eq_true h
 dsimp only at h'
 obtain ⟨rfl,rfl,rfl,hl⟩:=h'
 have:=gY (T:=nE) (λk=>((xl b k,b,(b.length:Int),(k:Int),()),())) b.length (e:=⟨(.exit 0,rj),((xl b b.length,()),())⟩) (λk hk=> ?_) ?_ 0 (Nat.zero_le _)
 ·obtain ⟨m,hm⟩:=this
  exact ⟨m,_,hm,rfl⟩
 ·unfold nE MV
  dsimp only
  rw [OT.au (decide_eq_true (by omega)),ah (by simp;exact ⟨bc (by omega),aS (by omega),by omega,aS (by omega)⟩),OT.eC,aa1]
  rfl
 ·unfold nE MV
  dsimp only
  rw [OT.aw (decide_eq_false (by omega)),OT.eC]
def ki (x:Kc):Bool:=decide (x.1.1.length<=4096)
def akk (x:Kc):OT kk.Y:=.ok ⟨MU,((xl x.1.1 x.1.1.length,()),())⟩
theorem aoF:aa Try.prog 96 (kk.aD ki akk):=adZ Rd aau aoG _ _ λx oy hp ho=>by
 rw [<-ho]
 have hp':=of_decide_eq_true hp
 refine (OT.au ?_).trans ?_
 ·exact decide_eq_true ⟨rfl,rfl,rfl,hp'⟩
 ·rfl
def y5:bI:=(kk.aD ki akk)
theorem V3:aa Try.prog 96 y5:=aoF
theorem V2:aC y5:=ax
def Ha:Env:=av 96 y5 E0
theorem Aa:aI Try.prog Ha:=ag V3 apc
theorem Bx:aq Ha:=ab V2 ala
theorem W2:aP Try.prog te Ha:=aF follows ap Aa Bx
def ox:ao:=⟨[.val false .u64,.val false .int],[],true,0,false⟩
abbrev abP:Type:=((UInt64)×(Int)×Unit)×(Unit)
def TQ:ar:=⟨[.val false .u64],[],false⟩
def YL:SV->Option ar:=λ_=>some TQ
def ag5 (a0:UInt64) (a1:Int):OT ox.Y:=
 (.ok ⟨TQ,((bL a0 (↑(UInt64.toNat (i2u a1&&&(63:UInt64))):Int)|||aT a0 (↑(UInt64.toNat ((64:UInt64)-(i2u a1&&&(63:UInt64)))):Int),()),())⟩)
theorem auZ (x:abP) (Q:ox.Y->Prop):wpf te Ha ay 1000 Try.f134 (ox.inp.inj x).tm (ox.inp.inj x).hp (fnK ox YL Q) (λ_ _=>False)=(ag5 (x.1.1) (x.1.2.1)).wpR Q:=by kernel_rfl
theorem ag4 (pre:abP->Bool) (F:abP->OT ox.Y) (hF:∀ (x:abP) oy,pre x=true->(F x).run=some oy->(ag5 (x.1.1) (x.1.2.1)).run=some oy):aa Try.prog 134 (ox.aD pre F):=
 aB ap Aa W2 (f:=134) (fn:=Try.f134) (c:=al Try.f134) (by kernel_rfl) (by kernel_rfl) (by kernel_rfl) (S:=ox) (k:=0) (by kernel_rfl) (λR hR=>af) (n:=1000) (sel:=YL) (λv o h=>by cases h;rfl) (pre:=pre) (F:=F) (T:=λx=>ag5 (x.1.1) (x.1.2.1)) (λx Q=>auZ x Q) hF
def rotl (a:UInt64) (n:Int):UInt64:=bL a (UInt64.toNat (i2u n&&&63):Int)|||aT a (UInt64.toNat (64-(i2u n&&&63)):Int)
def YM (_:abP):Bool:=true
def apA (x:abP):OT ox.Y:=.ok ⟨TQ,((rotl x.1.1 x.1.2.1,()),())⟩
theorem ass:aa Try.prog 134 (ox.aD YM apA):=ag4 _ _ λx oy _ ho=>ho
def De:bI:=(ox.aD YM apA)
theorem abO:aa Try.prog 134 De:=ass
theorem abN:aC De:=ax
def Sc:Env:=av 134 De Ha
theorem Gj:aI Try.prog Sc:=ag abO Aa
theorem Gk:aq Sc:=ab abN Bx
theorem aev:aP Try.prog te Sc:=aF follows ap Gj Gk
def pL:ao:=⟨[.val false .u8],[],true,0,false⟩
abbrev ad6:Type:=((UInt8)×Unit)×(Unit)
def M2:ar:=⟨[.val false .int],[],false⟩
def aaA:SV->Option ar:=λ_=>some M2
def aku (a0:UInt8):OT pL.Y:=
 (.br (decide ((97:UInt8)<=a0))
 (gd [inR ((↑(UInt8.toNat (a0-(97:UInt8))):Int)+(10:Int))] (.ok ⟨M2,(((↑(UInt8.toNat (a0-(97:UInt8))):Int)+(10:Int),()),())⟩))
 (.ok ⟨M2,(((↑(UInt8.toNat (a0-(48:UInt8))):Int),()),())⟩))
theorem avT (x:ad6) (Q:pL.Y->Prop):wpf te Sc ay 1000 Try.f131 (pL.inp.inj x).tm (pL.inp.inj x).hp (fnK pL aaA Q) (λ_ _=>False)=(aku (x.1.1)).wpR Q:=by kernel_rfl
theorem akt (pre:ad6->Bool) (F:ad6->OT pL.Y) (hF:∀ (x:ad6) oy,pre x=true->(F x).run=some oy->(aku (x.1.1)).run=some oy):aa Try.prog 131 (pL.aD pre F):=
 aB ap Gj aev (f:=131) (fn:=Try.f131) (c:=al Try.f131) (by kernel_rfl) (by kernel_rfl) (by kernel_rfl) (S:=pL) (k:=0) (by kernel_rfl) (λR hR=>af) (n:=1000) (sel:=aaA) (λv o h=>by cases h;rfl) (pre:=pre) (F:=F) (T:=λx=>aku (x.1.1)) (λx Q=>avT x Q) hF
def nib (c:UInt8):Int:=if 97<=c then (UInt8.toNat (c-97):Int)+10 else (UInt8.toNat (c-48):Int)
def aaB (_:ad6):Bool:=true
def aaC (x:ad6):OT pL.Y:=.ok ⟨M2,((nib x.1.1,()),())⟩
theorem atX:aa Try.prog 131 (pL.aD aaB aaC):=akt _ _ λx oy _ ho=>by
 rw [<-ho]
 have hlt:=(x.1.1-97).toNat_lt
 by_cases h:97<=x.1.1
 ·refine (OT.au (decide_eq_true h)).trans ((ah (by simp;exact aS (by omega))).trans ?_)
  simp only [aaC,nib,if_pos h]
 ·refine (OT.aw (decide_eq_false h)).trans ?_
  simp only [aaC,nib,if_neg h]
def Fq:bI:=(pL.aD aaB aaC)
theorem ad5:aa Try.prog 131 Fq:=atX
theorem ad4:aC Fq:=ax
def Sz:Env:=av 131 Fq Sc
theorem Hb:aI Try.prog Sz:=ag ad5 Gj
theorem Hc:aq Sz:=ab ad4 Gk
theorem aeF:aP Try.prog te Sz:=aF follows ap Hb Hc
def gJ:ao:=⟨[],[],true,0,false⟩
abbrev y7:Type:=(Unit)×(Unit)
def Fo:ar:=⟨[.val true (.arr 8 .u64)],[],false⟩
def Kd:SV->Option ar:=λ_=>some Fo
def M0:OT gJ.Y:=
 (.ok ⟨Fo,(([(7640891576956012808:UInt64),(13503953896175478587:UInt64),(4354685564936845355:UInt64),(11912009170470909681:UInt64),(5840696475078001361:UInt64),(11170449401992604703:UInt64),(2270897969802886507:UInt64),(6620516959819538809:UInt64)],()),())⟩)
theorem aoH (x:y7) (Q:gJ.Y->Prop):wpf te Sz ay 1000 Try.f95 (gJ.inp.inj x).tm (gJ.inp.inj x).hp (fnK gJ Kd Q) (λ_ _=>False)=(M0).wpR Q:=by kernel_rfl
theorem Wa (pre:y7->Bool) (F:y7->OT gJ.Y) (hF:∀ (x:y7) oy,pre x=true->(F x).run=some oy->(M0).run=some oy):aa Try.prog 95 (gJ.aD pre F):=
 aB ap Hb aeF (f:=95) (fn:=Try.f95) (c:=al Try.f95) (by kernel_rfl) (by kernel_rfl) (by kernel_rfl) (S:=gJ) (k:=0) (by kernel_rfl) (λR hR=>af) (n:=1000) (sel:=Kd) (λv o h=>by cases h;rfl) (pre:=pre) (F:=F) (T:=λx=>M0) (λx Q=>aoH x Q) hF
def bIV:List UInt64:= [0x6a09e667f3bcc908,0xbb67ae8584caa73b,0x3c6ef372fe94f82b,0xa54ff53a5f1d36f1,0x510e527fade682d1,0x9b05688c2b3e6c1f,0x1f83d9abfb41bd6b,0x5be0cd19137e2179]
def Ke (_:y7):Bool:=true
def aax (_:y7):OT gJ.Y:=.ok ⟨Fo,((bIV,()),())⟩
theorem akr:aa Try.prog 95 (gJ.aD Ke aax):=Wa _ _ λx oy _ ho=>ho
def th:bI:=(gJ.aD Ke aax)
theorem Rh:aa Try.prog 95 th:=akr
theorem Rg:aC th:=ax
def wZ:Env:=av 95 th Sz
theorem tJ:aI Try.prog wZ:=ag Rh Hb
theorem wY:aq wZ:=ab Rg Hc
theorem Sw:aP Try.prog te wZ:=aF follows ap tJ wY
def gK:ao:=⟨[],[],true,0,false⟩
abbrev y8:Type:=(Unit)×(Unit)
def Fp:ar:=⟨[.val true (.arr 10 .str)],[],false⟩
def Kf:SV->Option ar:=λ_=>some Fp
def M1:OT gK.Y:=
 (.ok ⟨Fp,(([[(48:UInt8),(49:UInt8),(50:UInt8),(51:UInt8),(52:UInt8),(53:UInt8),(54:UInt8),(55:UInt8),(56:UInt8),(57:UInt8),(97:UInt8),(98:UInt8),(99:UInt8),(100:UInt8),(101:UInt8),(102:UInt8)],[(101:UInt8),(97:UInt8),(52:UInt8),(56:UInt8),(57:UInt8),(102:UInt8),(100:UInt8),(54:UInt8),(49:UInt8),(99:UInt8),(48:UInt8),(50:UInt8),(98:UInt8),(55:UInt8),(53:UInt8),(51:UInt8)],[(98:UInt8),(56:UInt8),(99:UInt8),(48:UInt8),(53:UInt8),(50:UInt8),(102:UInt8),(100:UInt8),(97:UInt8),(101:UInt8),(51:UInt8),(54:UInt8),(55:UInt8),(49:UInt8),(57:UInt8),(52:UInt8)],[(55:UInt8),(57:UInt8),(51:UInt8),(49:UInt8),(100:UInt8),(99:UInt8),(98:UInt8),(101:UInt8),(50:UInt8),(54:UInt8),(53:UInt8),(97:UInt8),(52:UInt8),(48:UInt8),(102:UInt8),(56:UInt8)],[(57:UInt8),(48:UInt8),(53:UInt8),(55:UInt8),(50:UInt8),(52:UInt8),(97:UInt8),(102:UInt8),(101:UInt8),(49:UInt8),(98:UInt8),(99:UInt8),(54:UInt8),(56:UInt8),(51:UInt8),(100:UInt8)],[(50:UInt8),(99:UInt8),(54:UInt8),(97:UInt8),(48:UInt8),(98:UInt8),(56:UInt8),(51:UInt8),(52:UInt8),(100:UInt8),(55:UInt8),(53:UInt8),(102:UInt8),(101:UInt8),(49:UInt8),(57:UInt8)],[(99:UInt8),(53:UInt8),(49:UInt8),(102:UInt8),(101:UInt8),(100:UInt8),(52:UInt8),(97:UInt8),(48:UInt8),(55:UInt8),(54:UInt8),(51:UInt8),(57:UInt8),(50:UInt8),(56:UInt8),(98:UInt8)],[(100:UInt8),(98:UInt8),(55:UInt8),(101:UInt8),(99:UInt8),(49:UInt8),(51:UInt8),(57:UInt8),(53:UInt8),(48:UInt8),(102:UInt8),(52:UInt8),(56:UInt8),(54:UInt8),(50:UInt8),(97:UInt8)],[(54:UInt8),(102:UInt8),(101:UInt8),(57:UInt8),(98:UInt8),(51:UInt8),(48:UInt8),(56:UInt8),(99:UInt8),(50:UInt8),(100:UInt8),(55:UInt8),(49:UInt8),(52:UInt8),(97:UInt8),(53:UInt8)],[(97:UInt8),(50:UInt8),(56:UInt8),(52:UInt8),(55:UInt8),(54:UInt8),(49:UInt8),(53:UInt8),(102:UInt8),(98:UInt8),(57:UInt8),(101:UInt8),(51:UInt8),(99:UInt8),(100:UInt8),(48:UInt8)]],()),())⟩)
theorem aoI (x:y8) (Q:gK.Y->Prop):wpf te wZ ay 1000 Try.f129 (gK.inp.inj x).tm (gK.inp.inj x).hp (fnK gK Kf Q) (λ_ _=>False)=(M1).wpR Q:=by kernel_rfl
theorem Wb (pre:y8->Bool) (F:y8->OT gK.Y) (hF:∀ (x:y8) oy,pre x=true->(F x).run=some oy->(M1).run=some oy):aa Try.prog 129 (gK.aD pre F):=
 aB ap tJ Sw (f:=129) (fn:=Try.f129) (c:=al Try.f129) (by kernel_rfl) (by kernel_rfl) (by kernel_rfl) (S:=gK) (k:=0) (by kernel_rfl) (λR hR=>af) (n:=1000) (sel:=Kf) (λv o h=>by cases h;rfl) (pre:=pre) (F:=F) (T:=λx=>M1) (λx Q=>aoI x Q) hF
def fQ:List (List UInt8):= [[48,49,50,51,52,53,54,55,56,57,97,98,99,100,101,102],
 [101,97,52,56,57,102,100,54,49,99,48,50,98,55,53,51],
 [98,56,99,48,53,50,102,100,97,101,51,54,55,49,57,52],
 [55,57,51,49,100,99,98,101,50,54,53,97,52,48,102,56],
 [57,48,53,55,50,52,97,102,101,49,98,99,54,56,51,100],
 [50,99,54,97,48,98,56,51,52,100,55,53,102,101,49,57],
 [99,53,49,102,101,100,52,97,48,55,54,51,57,50,56,98],
 [100,98,55,101,99,49,51,57,53,48,102,52,56,54,50,97],
 [54,102,101,57,98,51,48,56,99,50,100,55,49,52,97,53],
 [97,50,56,52,55,54,49,53,102,98,57,101,51,99,100,48]]
def Kg (_:y8):Bool:=true
def aay (_:y8):OT gK.Y:=.ok ⟨Fp,((fQ,()),())⟩
theorem aks:aa Try.prog 129 (gK.aD Kg aay):=Wb _ _ λx oy _ ho=>ho
def tj:bI:=(gK.aD Kg aay)
theorem Rj:aa Try.prog 129 tj:=aks
theorem Ri:aC tj:=ax
def w6:Env:=av 129 tj wZ
theorem tK:aI Try.prog w6:=ag Rj tJ
theorem w5:aq w6:=ab Ri wY
theorem Sy:aP Try.prog te w6:=aF follows ap tK w5
def pN:ao:=⟨[.ptr 0 0 0,.val false .int,.val false .int,.val false .int,.val false .int,.val false .u64,.val false .u64],[(0,.row .u64)],false,1,true⟩
abbrev aec:Type:=((Unit)×(Int)×(Int)×(Int)×(Int)×(UInt64)×(UInt64)×Unit)×((List (UInt64))×Unit)
def We:ar:=⟨[],[(0,.row .u64)],false⟩
def aaE:SV->Option ar:=λ_=>some We
def aky (a1:Int) (a2:Int) (a3:Int) (a4:Int) (a5:UInt64) (a6:UInt64) (c0:List (UInt64)):OT pN.Y:=
 let z0:Bool:=inB a1 16
 let z1:Nat:=List.length c0
 let z2:Bool:=decide (Int.toNat a1+0<z1)
 let z3:Bool:=inB a2 16
 let z4:Bool:=inB a4 16
 let z5:List UInt64:=List.set c0 (Int.toNat a1+0) (List.getD c0 (Int.toNat a1+0) (0:UInt64)+(List.getD c0 (Int.toNat a2+0) (0:UInt64)+a5))
 let z6:Nat:=List.length z5
 let z7:Bool:=decide (Int.toNat a4+0<z6)
 let z8:Bool:=inB a3 16
 let z9:List UInt64:=List.set z5 (Int.toNat a4+0) (rotl (List.getD z5 (Int.toNat a4+0) (0:UInt64)^^^List.getD z5 (Int.toNat a1+0) (0:UInt64)) (-32:Int))
 let z10:Nat:=List.length z9
 let z11:Bool:=decide (Int.toNat a3+0<z10)
 let z12:List UInt64:=List.set z9 (Int.toNat a3+0) (List.getD z9 (Int.toNat a3+0) (0:UInt64)+List.getD z9 (Int.toNat a4+0) (0:UInt64))
 let z13:Nat:=List.length z12
 let z14:Bool:=decide (Int.toNat a2+0<z13)
 let z15:List UInt64:=List.set z12 (Int.toNat a2+0) (rotl (List.getD z12 (Int.toNat a2+0) (0:UInt64)^^^List.getD z12 (Int.toNat a3+0) (0:UInt64)) (-24:Int))
 let z16:Nat:=List.length z15
 let z17:Bool:=decide (Int.toNat a1+0<z16)
 let z18:List UInt64:=List.set z15 (Int.toNat a1+0) (List.getD z15 (Int.toNat a1+0) (0:UInt64)+(List.getD z15 (Int.toNat a2+0) (0:UInt64)+a6))
 let z19:Nat:=List.length z18
 let z20:Bool:=decide (Int.toNat a4+0<z19)
 let z21:List UInt64:=List.set z18 (Int.toNat a4+0) (rotl (List.getD z18 (Int.toNat a4+0) (0:UInt64)^^^List.getD z18 (Int.toNat a1+0) (0:UInt64)) (-16:Int))
 let z22:Nat:=List.length z21
 let z23:Bool:=decide (Int.toNat a3+0<z22)
 let z24:List UInt64:=List.set z21 (Int.toNat a3+0) (List.getD z21 (Int.toNat a3+0) (0:UInt64)+List.getD z21 (Int.toNat a4+0) (0:UInt64))
 let z25:Nat:=List.length z24
 let z26:Bool:=decide (Int.toNat a2+0<z25)
 (gd [z0,z2,z3,decide (Int.toNat a2+0<z1),z0,z2,z4,z7,z0,decide (Int.toNat a1+0<z6),z4,z7,z8,z11,z4,decide (Int.toNat a4+0<z10),z8,z11,z3,z14,z8,decide (Int.toNat a3+0<z13),z3,z14,z0,z17,z3,decide (Int.toNat a2+0<z16),z0,z17,z4,z20,z0,decide (Int.toNat a1+0<z19),z4,z20,z8,z23,z4,decide (Int.toNat a4+0<z22),z8,z23,z3,z26,z8,decide (Int.toNat a3+0<z25),z3,z26] (.ok ⟨We,((),(List.set z24 (Int.toNat a2+0) (rotl (List.getD z24 (Int.toNat a2+0) (0:UInt64)^^^List.getD z24 (Int.toNat a3+0) (0:UInt64)) (-63:Int)),()))⟩))
theorem avV (x:aec) (Q:pN.Y->Prop):wpf te w6 ay 1000 Try.f132 (pN.inp.inj x).tm (pN.inp.inj x).hp (fnK pN aaE Q) (λ_ _=>False)=(aky (x.1.2.1) (x.1.2.2.1) (x.1.2.2.2.1) (x.1.2.2.2.2.1) (x.1.2.2.2.2.2.1) (x.1.2.2.2.2.2.2.1) (x.2.1)).wpR Q:=by kernel_rfl
theorem akx (pre:aec->Bool) (F:aec->OT pN.Y) (hF:∀ (x:aec) oy,pre x=true->(F x).run=some oy->(aky (x.1.2.1) (x.1.2.2.1) (x.1.2.2.2.1) (x.1.2.2.2.2.1) (x.1.2.2.2.2.2.1) (x.1.2.2.2.2.2.2.1) (x.2.1)).run=some oy):aa Try.prog 132 (pN.aD pre F):=
 aB ap tK Sy (f:=132) (fn:=Try.f132) (c:=al Try.f132) (by kernel_rfl) (by kernel_rfl) (by kernel_rfl) (S:=pN) (k:=1) (by kernel_rfl) (λR hR=>af) (n:=1000) (sel:=aaE) (λv o h=>by cases h;rfl) (pre:=pre) (F:=F) (T:=λx=>aky (x.1.2.1) (x.1.2.2.1) (x.1.2.2.2.1) (x.1.2.2.2.2.1) (x.1.2.2.2.2.2.1) (x.1.2.2.2.2.2.2.1) (x.2.1)) (λx Q=>avV x Q) hF
def anY (v:List UInt64) (a b c d:Nat) (x y:UInt64):List UInt64:=
 let v1:=v.set a (v.getD a 0+(v.getD b 0+x))
 let v2:=v1.set d (rotl (v1.getD d 0^^^v1.getD a 0) (-32))
 let v3:=v2.set c (v2.getD c 0+v2.getD d 0)
 let v4:=v3.set b (rotl (v3.getD b 0^^^v3.getD c 0) (-24))
 let v5:=v4.set a (v4.getD a 0+(v4.getD b 0+y))
 let v6:=v5.set d (rotl (v5.getD d 0^^^v5.getD a 0) (-16))
 let v7:=v6.set c (v6.getD c 0+v6.getD d 0)
 v7.set b (rotl (v7.getD b 0^^^v7.getD c 0) (-63))
theorem np (v:List UInt64) (a b c d:Nat) (x y:UInt64):(anY v a b c d x y).length=v.length:=by
 simp only [anY,List.length_set]
def nG (x:aec):Bool:=inB x.1.2.1 16&&inB x.1.2.2.1 16&&inB x.1.2.2.2.1 16&&inB x.1.2.2.2.2.1 16&&decide (x.2.1.length=16)
def ap4 (x:aec):OT pN.Y:=.ok ⟨We,((),(anY x.2.1 x.1.2.1.toNat x.1.2.2.1.toNat x.1.2.2.2.1.toNat x.1.2.2.2.2.1.toNat x.1.2.2.2.2.2.1 x.1.2.2.2.2.2.2.1,()))⟩
theorem atZ:aa Try.prog 132 (pN.aD nG ap4):=akx _ _ λx oy hp ho=>by
 rw [<-ho]
 obtain ⟨⟨⟨⟩,a,b,c,d,x,y,⟨⟩⟩,⟨v,⟨⟩⟩⟩:=x
 simp only [nG,Bool.and_eq_true,decide_eq_true_eq] at hp
 obtain ⟨⟨⟨⟨ha,hb⟩,hc⟩,hd⟩,hv⟩:=hp
 have na:=PS ha
 have nb:=PS hb
 have nc:=PS hc
 have nd:=PS hd
 refine (ah ?_).trans rfl
 simp only [List.length_set,hv,ha,hb,hc,hd,Nat.add_zero,na,nb,nc,nd,decide_true,List.all_cons,List.all_nil,Bool.and_self]
def Fw:bI:=(pN.aD nG ap4)
theorem aeb:aa Try.prog 132 Fw:=atZ
theorem aea:aC Fw:=ax
def SB:Env:=av 132 Fw w6
theorem He:aI Try.prog SB:=ag aeb tK
theorem Hf:aq SB:=ab aea w5
theorem aeG:aP Try.prog te SB:=aF follows ap He Hf
def FE:ao:=⟨[.val false .int,.ptr 0 0 0,.ptr 1 0 0],[(0,.row .u64),(1,.cells [.val false .str])],false,2,true⟩
abbrev aul:Type:=((Int)×(Unit)×(Unit)×Unit)×((List (UInt64))×((List UInt8)×Unit)×Unit)
def akO:ar:=⟨[.val false .u64],[(0,.row .u64),(1,.cells [.val false .str])],false⟩
def akN:SV->Option ar:=λ_=>some akO
def at2 (a0:Int) (c0:List (UInt64)) (c1_0:List UInt8):OT FE.Y:=
 let z0:Int:=nib (List.getD c1_0 (Int.toNat a0) (0:UInt8))
 (gd [inB a0 (List.length c1_0),inB z0 16,decide (Int.toNat z0+0<List.length c0)] (.ok ⟨akO,((List.getD c0 (Int.toNat z0+0) (0:UInt64),()),(c0,((c1_0,()),())))⟩))
theorem awx (x:aul) (Q:FE.Y->Prop):wpf te SB ay 1000 Try.f130 (FE.inp.inj x).tm (FE.inp.inj x).hp (fnK FE akN Q) (λ_ _=>False)=(at2 (x.1.1) (x.2.1) (x.2.2.1.1)).wpR Q:=by kernel_rfl
theorem ao6 (pre:aul->Bool) (F:aul->OT FE.Y) (hF:∀ (x:aul) oy,pre x=true->(F x).run=some oy->(at2 (x.1.1) (x.2.1) (x.2.2.1.1)).run=some oy):aa Try.prog 130 (FE.aD pre F):=
 aB ap He aeG (f:=130) (fn:=Try.f130) (c:=al Try.f130) (by kernel_rfl) (by kernel_rfl) (by kernel_rfl) (S:=FE) (k:=2) (by kernel_rfl) (λR hR=>af) (n:=1000) (sel:=akN) (λv o h=>by cases h;rfl) (pre:=pre) (F:=F) (T:=λx=>at2 (x.1.1) (x.2.1) (x.2.2.1.1)) (λx Q=>awx x Q) hF
def atF (m:List UInt64) (row:List UInt8) (i:Int):UInt64:=m.getD (nib (row.getD i.toNat 0)).toNat 0
def nJ (x:aul):Bool:=inB x.1.1 x.2.2.1.1.length&&inB (nib (x.2.2.1.1.getD x.1.1.toNat 0)) 16&&decide (x.2.1.length=16)
def avX (x:aul):OT FE.Y:=.ok ⟨akO,((atF x.2.1 x.2.2.1.1 x.1.1,()),(x.2.1,((x.2.2.1.1,()),())))⟩
theorem avW:aa Try.prog 130 (FE.aD nJ avX):=ao6 _ _ λx oy hp ho=>by
 rw [<-ho]
 obtain ⟨⟨i,⟨⟩,⟨⟩,⟨⟩⟩,⟨m,⟨row,⟨⟩⟩,⟨⟩⟩⟩:=x
 simp only [nJ,Bool.and_eq_true,decide_eq_true_eq] at hp
 obtain ⟨⟨h1,h2⟩,h3⟩:=hp
 have n2:=PS h2
 refine (ah ?_).trans rfl
 simp only [h1,h2,h3,Nat.add_zero,n2,decide_true,List.all_cons,List.all_nil,Bool.and_self]
def Nc:bI:=(FE.aD nJ avX)
theorem akP:aa Try.prog 130 Nc:=avW
theorem akM:aC Nc:=ax
def HY:Env:=av 130 Nc SB
theorem la:aI Try.prog HY:=ag akP He
theorem KF:aq HY:=ab akM Hf
theorem mB:aP Try.prog te HY:=aF follows ap la KF
def kr:ao:=⟨[.val true (.arr 8 .u64),.val true (.arr 128 .u8),.val false .u64,.val false .bool],[],true,0,false⟩
abbrev Kq:Type:=((List (UInt64))×(List (UInt8))×(UInt64)×(Bool)×Unit)×(Unit)
def v8:Shape:=⟨127,[(4,.ptr 0 0 0),(5,.ptr 1 0 0),(8,.ptr 2 0 0),(9,.ptr 3 0 0),(11,.ptr 4 0 0),(37,.val false .int)],[(0,.row .u64),(1,.row .u8),(2,.row .u64),(3,.row .u64),(4,.row .u64)],0,true⟩
abbrev cu:Type:=((Unit)×(Unit)×(Unit)×(Unit)×(Unit)×(Int)×Unit)×((List (UInt64))×(List (UInt8))×(List (UInt64))×(List (UInt64))×(List (UInt64))×Unit)
def rA:Shape:=⟨127,[(4,.ptr 0 0 0),(8,.ptr 1 0 0),(9,.ptr 2 0 0),(11,.ptr 3 0 0)],[(0,.row .u64),(1,.row .u64),(2,.row .u64),(3,.row .u64)],0,true⟩
abbrev kq:Type:=((Unit)×(Unit)×(Unit)×(Unit)×Unit)×((List (UInt64))×(List (UInt64))×(List (UInt64))×(List (UInt64))×Unit)
def aaN:SE->Option Shape:=kv [(0,rA)] none
def ao4 (a37:Int) (c0:List (UInt64)) (c1:List (UInt8)) (c2:List (UInt64)) (c3:List (UInt64)) (c4:List (UInt64)):OT (Sum cu aJ):=
 let z0:Bool:=inR ((8:Int)*a37)
 let z1:List UInt8:=List.take (Int.toNat ((8:Int)*a37+(8:Int)-(8:Int)*a37)) (List.drop (Int.toNat ((8:Int)*a37)) c1)
 (.br (decide (a37<(16:Int)))
 (gd [z0,z0,inR ((8:Int)*a37+(8:Int)),decide (128<=List.length c1)&&bH ((8:Int)*a37) ((8:Int)*a37+(8:Int)) 128,ki ((z1,()),()),inB a37 16,decide (Int.toNat a37+0<List.length c4),inR (a37+(1:Int))] (.ok (.inl (((),((),((),((),((),(a37+(1:Int),())))))),(c0,(c1,(c2,(c3,(List.set c4 (Int.toNat a37+0) (xl z1 (List.length z1)),())))))))))
 (.ok (.inr ⟨(.exit 0,rA),(((),((),((),((),())))),(c0,(c2,(c3,(c4,())))))⟩)))
def we (s:cu):OT (Sum cu aJ):=ao4 (s.1.2.2.2.2.2.1) (s.2.1) (s.2.2.1) (s.2.2.2.1) (s.2.2.2.2.1) (s.2.2.2.2.2.1)
theorem aoT (s:cu) (Q:Sum cu aJ->Prop):wps te HY ay 1000 (bk (al Try.f126) 0) (v8.inj s) (cO v8 aaN (Q:Sum v8.T aJ->Prop))=(we s).wpR Q:=by kernel_rfl
def Cq (g0_0:cu->kq) (s:cu):OT aJ:=(.ok ⟨(.exit 0,rA),g0_0 s⟩)
def vZ:Shape:=⟨127,[(4,.ptr 0 0 0),(8,.ptr 1 0 0),(9,.ptr 2 0 0),(11,.ptr 3 0 0),(13,.ptr 4 0 0),(51,.val false .int)],[(0,.row .u64),(1,.row .u64),(2,.row .u64),(3,.row .u64),(4,.row .str)],0,true⟩
abbrev ct:Type:=((Unit)×(Unit)×(Unit)×(Unit)×(Unit)×(Int)×Unit)×((List (UInt64))×(List (UInt64))×(List (UInt64))×(List (UInt64))×(List (List UInt8))×Unit)
def vY:Shape:=⟨127,[(4,.ptr 0 0 0),(8,.ptr 1 0 0),(9,.ptr 2 0 0),(11,.ptr 3 0 0),(13,.ptr 4 0 0),(16,.fn 130 [3,5]),(51,.val false .int),(59,.val false .int)],[(0,.row .u64),(1,.row .u64),(2,.row .u64),(3,.row .u64),(4,.row .str),(5,.cells [.val false .str])],0,true⟩
abbrev bK:Type:=((Unit)×(Unit)×(Unit)×(Unit)×(Unit)×(Unit)×(Int)×(Int)×Unit)×((List (UInt64))×(List (UInt64))×(List (UInt64))×(List (UInt64))×(List (List UInt8))×((List UInt8)×Unit)×Unit)
def ry:Shape:=⟨127,[(4,.ptr 0 0 0),(8,.ptr 1 0 0),(9,.ptr 2 0 0),(11,.ptr 3 0 0),(13,.ptr 4 0 0),(16,.fn 130 [3,5]),(51,.val false .int)],[(0,.row .u64),(1,.row .u64),(2,.row .u64),(3,.row .u64),(4,.row .str),(5,.cells [.val false .str])],0,true⟩
abbrev e5:Type:=((Unit)×(Unit)×(Unit)×(Unit)×(Unit)×(Unit)×(Int)×Unit)×((List (UInt64))×(List (UInt64))×(List (UInt64))×(List (UInt64))×(List (List UInt8))×((List UInt8)×Unit)×Unit)
def aaL:SE->Option Shape:=kv [(4,ry)] none
def ao2 (a51:Int) (a59:Int) (c0:List (UInt64)) (c1:List (UInt64)) (c2:List (UInt64)) (c3:List (UInt64)) (c4:List (List UInt8)) (c5_0:List UInt8):OT (Sum bK aJ):=
 let z0:Bool:=inR ((2:Int)*a59)
 let z1:PUnit×PUnit×PUnit:=((),(),())
 let z2:List UInt64×(List UInt8×PUnit)×PUnit:=(c3,(c5_0,()),())
 let z3:UInt64:=atF c3 c5_0 ((2:Int)*a59)
 let z4:UInt64:=atF c3 c5_0 ((2:Int)*a59+(1:Int))
 (.br (decide (a59<(4:Int)))
 (gd [inR ((4:Int)+a59),inR ((8:Int)+a59),inR ((12:Int)+a59),z0,nJ (((2:Int)*a59,z1),z2),z0,inR ((2:Int)*a59+(1:Int)),nJ (((2:Int)*a59+(1:Int),z1),z2),nG (((),a59,(4:Int)+a59,(8:Int)+a59,(12:Int)+a59,z3,z4,()),c2,()),inR (a59+(1:Int))] (.ok (.inl (((),((),((),((),((),((),(a51,(a59+(1:Int),())))))))),(c0,(c1,(anY c2 (Int.toNat a59) (Int.toNat ((4:Int)+a59)) (Int.toNat ((8:Int)+a59)) (Int.toNat ((12:Int)+a59)) z3 z4,(c3,(c4,((c5_0,()),()))))))))))
 (.ok (.inr ⟨(.exit 4,ry),(((),((),((),((),((),((),(a51,()))))))),(c0,(c1,(c2,(c3,(c4,((c5_0,()),())))))))⟩)))
def wb (s:bK):OT (Sum bK aJ):=ao2 (s.1.2.2.2.2.2.2.1) (s.1.2.2.2.2.2.2.2.1) (s.2.1) (s.2.2.1) (s.2.2.2.1) (s.2.2.2.2.1) (s.2.2.2.2.2.1) (s.2.2.2.2.2.2.1.1)
theorem aoR (s:bK) (Q:Sum bK aJ->Prop):wps te HY ay 1000 (bk (bk (al Try.f126) 2) 4) (vY.inj s) (cO vY aaL (Q:Sum vY.T aJ->Prop))=(wb s).wpR Q:=by kernel_rfl
def Co (g4_4:bK->e5) (s:bK):OT aJ:=(.ok ⟨(.exit 4,ry),g4_4 s⟩)
def vX:Shape:=⟨127,[(4,.ptr 0 0 0),(8,.ptr 1 0 0),(9,.ptr 2 0 0),(11,.ptr 3 0 0),(13,.ptr 4 0 0),(16,.fn 130 [3,5]),(51,.val false .int),(80,.val false .int)],[(0,.row .u64),(1,.row .u64),(2,.row .u64),(3,.row .u64),(4,.row .str),(5,.cells [.val false .str])],0,true⟩
abbrev bJ:Type:=((Unit)×(Unit)×(Unit)×(Unit)×(Unit)×(Unit)×(Int)×(Int)×Unit)×((List (UInt64))×(List (UInt64))×(List (UInt64))×(List (UInt64))×(List (List UInt8))×((List UInt8)×Unit)×Unit)
def rv:Shape:=⟨127,[(4,.ptr 0 0 0),(8,.ptr 1 0 0),(9,.ptr 2 0 0),(11,.ptr 3 0 0),(13,.ptr 4 0 0),(51,.val false .int)],[(0,.row .u64),(1,.row .u64),(2,.row .u64),(3,.row .u64),(4,.row .str)],0,true⟩
abbrev eZ:Type:=((Unit)×(Unit)×(Unit)×(Unit)×(Unit)×(Int)×Unit)×((List (UInt64))×(List (UInt64))×(List (UInt64))×(List (UInt64))×(List (List UInt8))×Unit)
def aaK:SE->Option Shape:=kv [(6,rv)] none
def ao1 (a51:Int) (a80:Int) (c0:List (UInt64)) (c1:List (UInt64)) (c2:List (UInt64)) (c3:List (UInt64)) (c4:List (List UInt8)) (c5_0:List UInt8):OT (Sum bJ aJ):=
 let z0:Bool:=inR (a80+(1:Int))
 let z1:Int:=(4:Int)+Int.tmod (a80+(1:Int)) (4:Int)
 let z2:Int:=(8:Int)+Int.tmod (a80+(2:Int)) (4:Int)
 let z3:Int:=(12:Int)+Int.tmod (a80+(3:Int)) (4:Int)
 let z4:Bool:=inR ((2:Int)*a80)
 let z5:PUnit×PUnit×PUnit:=((),(),())
 let z6:List UInt64×(List UInt8×PUnit)×PUnit:=(c3,(c5_0,()),())
 let z7:UInt64:=atF c3 c5_0 ((8:Int)+(2:Int)*a80)
 let z8:UInt64:=atF c3 c5_0 ((9:Int)+(2:Int)*a80)
 (.br (decide (a80<(4:Int)))
 (gd [z0,inR z1,inR (a80+(2:Int)),inR z2,inR (a80+(3:Int)),inR z3,z4,inR ((8:Int)+(2:Int)*a80),nJ (((8:Int)+(2:Int)*a80,z5),z6),z4,inR ((9:Int)+(2:Int)*a80),nJ (((9:Int)+(2:Int)*a80,z5),z6),nG (((),a80,z1,z2,z3,z7,z8,()),c2,()),z0] (.ok (.inl (((),((),((),((),((),((),(a51,(a80+(1:Int),())))))))),(c0,(c1,(anY c2 (Int.toNat a80) (Int.toNat z1) (Int.toNat z2) (Int.toNat z3) z7 z8,(c3,(c4,((c5_0,()),()))))))))))
 (.ok (.inr ⟨(.exit 6,rv),(((),((),((),((),((),(a51,())))))),(c0,(c1,(c2,(c3,(c4,()))))))⟩)))
def wa (s:bJ):OT (Sum bJ aJ):=ao1 (s.1.2.2.2.2.2.2.1) (s.1.2.2.2.2.2.2.2.1) (s.2.1) (s.2.2.1) (s.2.2.2.1) (s.2.2.2.2.1) (s.2.2.2.2.2.1) (s.2.2.2.2.2.2.1.1)
theorem aoQ (s:bJ) (Q:Sum bJ aJ->Prop):wps te HY ay 1000 (bk (bk (al Try.f126) 2) 6) (vX.inj s) (cO vX aaK (Q:Sum vX.T aJ->Prop))=(wa s).wpR Q:=by kernel_rfl
def Cn (g6_6:bJ->eZ) (s:bJ):OT aJ:=(.ok ⟨(.exit 6,rv),g6_6 s⟩)
def rz:Shape:=⟨127,[(4,.ptr 0 0 0),(8,.ptr 1 0 0),(9,.ptr 2 0 0)],[(0,.row .u64),(1,.row .u64),(2,.row .u64)],0,true⟩
abbrev kp:Type:=((Unit)×(Unit)×(Unit)×Unit)×((List (UInt64))×(List (UInt64))×(List (UInt64))×Unit)
def aaM:SE->Option Shape:=kv [(2,rz)] none
def ao3 (ok4:bK->Bool) (g4_4:bK->e5) (ok6:bJ->Bool) (g6_6:bJ->eZ) (a51:Int) (c0:List (UInt64)) (c1:List (UInt64)) (c2:List (UInt64)) (c3:List (UInt64)) (c4:List (List UInt8)):OT (Sum ct aJ):=
 let z0:Int:=Int.tmod a51 (10:Int)
 let z1:(PUnit×PUnit×PUnit×PUnit×PUnit×PUnit×Int×Int×PUnit)×List UInt64×List UInt64×List UInt64×List UInt64×List (List UInt8)×(List UInt8×PUnit)×PUnit:=(((),(),(),(),(),(),a51,(0:Int),()),c0,c1,c2,c3,c4,(List.getD c4 (Int.toNat z0+0) [],()),())
 let z2:(PUnit×PUnit×PUnit×PUnit×PUnit×PUnit×Int×PUnit)×List UInt64×List UInt64×List UInt64×List UInt64×List (List UInt8)×(List UInt8×PUnit)×PUnit:=g4_4 z1
 let z3:=z2.snd
 let z4:=z3.snd
 let z5:=z4.snd
 let z6:=z5.snd
 let z7:=z6.snd
 let z8:(PUnit×PUnit×PUnit×PUnit×PUnit×PUnit×Int×Int×PUnit)×List UInt64×List UInt64×List UInt64×List UInt64×List (List UInt8)×(List UInt8×PUnit)×PUnit:=(((),(),(),(),(),(),z2.fst.snd.snd.snd.snd.snd.snd.fst,(0:Int),()),z3.fst,z4.fst,z5.fst,z6.fst,z7.fst,(z7.snd.fst.fst,()),())
 let z9:(PUnit×PUnit×PUnit×PUnit×PUnit×Int×PUnit)×List UInt64×List UInt64×List UInt64×List UInt64×List (List UInt8)×PUnit:=g6_6 z8
 let z10:=z9.snd
 let z11:=z10.snd
 let z12:=z11.snd
 let z13:=z12.snd
 (.br (decide (a51<(12:Int)))
 (gd [inB z0 10,decide (Int.toNat z0+0<List.length c4),ok4 z1,ok6 z8,inR (z9.fst.snd.snd.snd.snd.snd.fst+(1:Int))] (.ok (.inl (((),((),((),((),((),(z9.fst.snd.snd.snd.snd.snd.fst+(1:Int),())))))),(z10.fst,(z11.fst,(z12.fst,(z13.fst,(z13.snd.fst,())))))))))
 (.ok (.inr ⟨(.exit 2,rz),(((),((),((),()))),(c0,(c1,(c2,()))))⟩)))
def wc (ok4:bK->Bool) (g4_4:bK->e5) (ok6:bJ->Bool) (g6_6:bJ->eZ) (s:ct):OT (Sum ct aJ):=ao3 ok4 g4_4 ok6 g6_6 (s.1.2.2.2.2.2.1) (s.2.1) (s.2.2.1) (s.2.2.2.1) (s.2.2.2.2.1) (s.2.2.2.2.2.1)
theorem aoS (ok4:bK->Bool) (g4_4:bK->e5) (ok6:bJ->Bool) (g6_6:bJ->eZ) (s:ct) (Q:Sum ct aJ->Prop):wps te HY (bu 6 (dq vX 6 ok6 (Cn g6_6)) (bu 4 (dq vY 4 ok4 (Co g4_4)) ay)) 1000 (bk (al Try.f126) 2) (vZ.inj s) (cO vZ aaM (Q:Sum vZ.T aJ->Prop))=(wc ok4 g4_4 ok6 g6_6 s).wpR Q:=by kernel_rfl
def Cp (g2_2:ct->kp) (s:ct):OT aJ:=(.ok ⟨(.exit 2,rz),g2_2 s⟩)
def vW:Shape:=⟨127,[(4,.ptr 0 0 0),(8,.ptr 1 0 0),(9,.ptr 2 0 0),(109,.val false .int)],[(0,.row .u64),(1,.row .u64),(2,.row .u64)],0,true⟩
abbrev cr:Type:=((Unit)×(Unit)×(Unit)×(Int)×Unit)×((List (UInt64))×(List (UInt64))×(List (UInt64))×Unit)
def ru:Shape:=⟨127,[(4,.ptr 0 0 0),(8,.ptr 1 0 0)],[(0,.row .u64),(1,.row .u64)],0,true⟩
abbrev ko:Type:=((Unit)×(Unit)×Unit)×((List (UInt64))×(List (UInt64))×Unit)
def aaJ:SE->Option Shape:=kv [(8,ru)] none
def ao0 (a109:Int) (c0:List (UInt64)) (c1:List (UInt64)) (c2:List (UInt64)):OT (Sum cr aJ):=
 let z0:Bool:=inB a109 8
 let z1:Bool:=decide (Int.toNat a109+0<List.length c0)
 let z2:Nat:=List.length c2
 (.br (decide (a109<(8:Int)))
 (gd [z0,z1,inB a109 16,decide (Int.toNat a109+0<z2),inR (a109+(8:Int)),inB (a109+(8:Int)) 16,decide (Int.toNat (a109+(8:Int))+0<z2),z0,z1,inR (a109+(1:Int))] (.ok (.inl (((),((),((),(a109+(1:Int),())))),(List.set c0 (Int.toNat a109+0) (List.getD c0 (Int.toNat a109+0) (0:UInt64)^^^(List.getD c2 (Int.toNat a109+0) (0:UInt64)^^^List.getD c2 (Int.toNat (a109+(8:Int))+0) (0:UInt64))),(c1,(c2,())))))))
 (.ok (.inr ⟨(.exit 8,ru),(((),((),())),(c0,(c1,())))⟩)))
def v9 (s:cr):OT (Sum cr aJ):=ao0 (s.1.2.2.2.1) (s.2.1) (s.2.2.1) (s.2.2.2.1)
theorem aoP (s:cr) (Q:Sum cr aJ->Prop):wps te HY ay 1000 (bk (al Try.f126) 8) (vW.inj s) (cO vW aaJ (Q:Sum vW.T aJ->Prop))=(v9 s).wpR Q:=by kernel_rfl
def Cm (g8_8:cr->ko) (s:cr):OT aJ:=(.ok ⟨(.exit 8,ru),g8_8 s⟩)
def Cl:ar:=⟨[.val true (.arr 8 .u64)],[],false⟩
def RH:SV->Option ar:=λ_=>some Cl
def Wr (ok0:cu->Bool) (g0_0:cu->kq) (ok4:bK->Bool) (g4_4:bK->e5) (ok6:bJ->Bool) (g6_6:bJ->eZ) (ok2:ct->Bool) (g2_2:ct->kp) (ok8:cr->Bool) (g8_8:cr->ko) (a0:List (UInt64)) (a1:List (UInt8)) (a2:UInt64) (a3:Bool):OT kr.Y:=
 let z0:PUnit×PUnit×PUnit×PUnit×PUnit×Int×PUnit:=((),(),(),(),(),(0:Int),())
 let z1:List UInt64:=tab a0 8 (0:UInt64)
 let z2:List UInt8:=tab a1 128 (0:UInt8)
 let z3:List UInt64:= []++(List.take 8 z1++List.drop (0+min (List.length z1) 8) [(0:UInt64),(0:UInt64),(0:UInt64),(0:UInt64),(0:UInt64),(0:UInt64),(0:UInt64),(0:UInt64),(0:UInt64),(0:UInt64),(0:UInt64),(0:UInt64),(0:UInt64),(0:UInt64),(0:UInt64),(0:UInt64)])
 let z4:List UInt64:=List.take 8 z3++([(7640891576956012808:UInt64),(13503953896175478587:UInt64),(4354685564936845355:UInt64),(11912009170470909681:UInt64),(5840696475078001361:UInt64),(11170449401992604703:UInt64),(2270897969802886507:UInt64),(6620516959819538809:UInt64)]++List.drop 16 z3)
 let z5:List UInt64:=List.set z4 12 (List.getD z4 12 0^^^a2)
 let z6:List UInt64×PUnit:=([(0:UInt64),(0:UInt64),(0:UInt64),(0:UInt64),(0:UInt64),(0:UInt64),(0:UInt64),(0:UInt64),(0:UInt64),(0:UInt64),(0:UInt64),(0:UInt64),(0:UInt64),(0:UInt64),(0:UInt64),(0:UInt64)],())
 let z7:(PUnit×PUnit×PUnit×PUnit×PUnit×Int×PUnit)×List UInt64×List UInt8×List UInt64×List UInt64×List UInt64×PUnit:=(z0,z1,z2,[(0:UInt64),(0:UInt64),(0:UInt64),(0:UInt64),(0:UInt64),(0:UInt64),(0:UInt64),(0:UInt64)],List.set z5 14 (~~~List.getD z5 14 0),z6)
 let z8:PUnit×PUnit×PUnit×PUnit×PUnit×Int×PUnit:=((),(),(),(),(),(0:Int),())
 let z9:=(g0_0 z7).snd
 let z10:=z9.snd
 let z11:=z10.snd
 let z12:List (List UInt8)×PUnit:=([List.getD fQ 0 [],List.getD fQ 1 [],List.getD fQ 2 [],List.getD fQ 3 [],List.getD fQ 4 [],List.getD fQ 5 [],List.getD fQ 6 [],List.getD fQ 7 [],List.getD fQ 8 [],List.getD fQ 9 []],())
 let z13:(PUnit×PUnit×PUnit×PUnit×PUnit×Int×PUnit)×List UInt64×List UInt64×List UInt64×List UInt64×List (List UInt8)×PUnit:=(z8,z9.fst,z10.fst,z11.fst,z11.snd.fst,z12)
 let z14:PUnit×PUnit×PUnit×Int×PUnit:=((),(),(),(0:Int),())
 let z15:=(g2_2 z13).snd
 let z16:=z15.snd
 let z17:(PUnit×PUnit×PUnit×Int×PUnit)×List UInt64×List UInt64×List UInt64×PUnit:=(z14,z15.fst,z16.fst,z16.snd.fst,())
 let z18:=(g8_8 z17).snd
 let z19:=z18.fst
 let z20:=z18.snd.fst
 let z21:List UInt64:=lay z20 z19 8 (0:UInt64)
 let z22:(PUnit×PUnit×PUnit×PUnit×PUnit×Int×PUnit)×List UInt64×List UInt8×List UInt64×List UInt64×List UInt64×PUnit:=(z0,z1,z2,[(0:UInt64),(0:UInt64),(0:UInt64),(0:UInt64),(0:UInt64),(0:UInt64),(0:UInt64),(0:UInt64)],z5,z6)
 let z23:=(g0_0 z22).snd
 let z24:=z23.snd
 let z25:=z24.snd
 let z26:(PUnit×PUnit×PUnit×PUnit×PUnit×Int×PUnit)×List UInt64×List UInt64×List UInt64×List UInt64×List (List UInt8)×PUnit:=(z8,z23.fst,z24.fst,z25.fst,z25.snd.fst,z12)
 let z27:=(g2_2 z26).snd
 let z28:=z27.snd
 let z29:(PUnit×PUnit×PUnit×Int×PUnit)×List UInt64×List UInt64×List UInt64×PUnit:=(z14,z27.fst,z28.fst,z28.snd.fst,())
 let z30:=(g8_8 z29).snd
 let z31:=z30.fst
 let z32:=z30.snd.fst
 let z33:List UInt64:=lay z32 z31 8 (0:UInt64)
 (.br (a3)
 (gd [ok0 z7,ok2 z13,ok8 z17,decide (8<=List.length z19),decide ((8/1:Nat)+0<=List.length z20),decide (8<=List.length z21)] (.ok ⟨Cl,((tab z21 8 (0:UInt64),()),())⟩))
 (gd [ok0 z22,ok2 z26,ok8 z29,decide (8<=List.length z31),decide ((8/1:Nat)+0<=List.length z32),decide (8<=List.length z33)] (.ok ⟨Cl,((tab z33 8 (0:UInt64),()),())⟩)))
theorem at1 (ok0:cu->Bool) (g0_0:cu->kq) (ok4:bK->Bool) (g4_4:bK->e5) (ok6:bJ->Bool) (g6_6:bJ->eZ) (ok2:ct->Bool) (g2_2:ct->kp) (ok8:cr->Bool) (g8_8:cr->ko) (x:Kq) (Q:kr.Y->Prop):wpf te HY (bu 8 (dq vW 8 ok8 (Cm g8_8)) (bu 2 (dq vZ 2 ok2 (Cp g2_2)) (bu 0 (dq v8 0 ok0 (Cq g0_0)) ay))) 1000 Try.f126 (kr.inp.inj x).tm (kr.inp.inj x).hp (fnK kr RH Q) (λ_ _=>False)=(Wr ok0 g0_0 ok4 g4_4 ok6 g6_6 ok2 g2_2 ok8 g8_8 (x.1.1) (x.1.2.1) (x.1.2.2.1) (x.1.2.2.2.1)).wpR Q:=by kernel_rfl
theorem aef (ok0:cu->Bool) (g0_0:cu->kq) (ok4:bK->Bool) (g4_4:bK->e5) (ok6:bJ->Bool) (g6_6:bJ->eZ) (ok2:ct->Bool) (g2_2:ct->kp) (ok8:cr->Bool) (g8_8:cr->ko) (h0:∀ s:cu,ok0 s=true->∃ m e,aA (we) m s=some e/\(Cq g0_0 s).run=some e) (h4:∀ s:bK,ok4 s=true->∃ m e,aA (wb) m s=some e/\(Co g4_4 s).run=some e) (h6:∀ s:bJ,ok6 s=true->∃ m e,aA (wa) m s=some e/\(Cn g6_6 s).run=some e) (h2:∀ s:ct,ok2 s=true->∃ m e,aA (wc ok4 g4_4 ok6 g6_6) m s=some e/\(Cp g2_2 s).run=some e) (h8:∀ s:cr,ok8 s=true->∃ m e,aA (v9) m s=some e/\(Cm g8_8 s).run=some e) (pre:Kq->Bool) (F:Kq->OT kr.Y) (hF:∀ (x:Kq) oy,pre x=true->(F x).run=some oy->(Wr ok0 g0_0 ok4 g4_4 ok6 g6_6 ok2 g2_2 ok8 g8_8 (x.1.1) (x.1.2.1) (x.1.2.2.1) (x.1.2.2.2.1)).run=some oy):aa Try.prog 126 (kr.aD pre F):=
 aB ap la mB (f:=126) (fn:=Try.f126) (c:=al Try.f126) (by kernel_rfl) (by kernel_rfl) (by kernel_rfl) (S:=kr) (k:=0) (by kernel_rfl) (λR hR=>(aH (c:=(al Try.f126)) (by kernel_rfl) (id:=8) (by kernel_rfl) (bn ap la mB (sh:=vW) hR (xs:=aaJ) (aG (by kernel_rfl) (by kernel_rfl) hR) aV af (n:=1000) (T:=v9) (λs Q=>aoP s Q) (ok:=ok8) (f:=Cm g8_8) h8) (aH (c:=(al Try.f126)) (by kernel_rfl) (id:=2) (by kernel_rfl) (bn ap la mB (sh:=vZ) hR (xs:=aaM) (aG (by kernel_rfl) (by kernel_rfl) hR) aV (aH (c:=(bk (al Try.f126) 2)) (by kernel_rfl) (id:=6) (by kernel_rfl) (bn ap la mB (sh:=vX) hR (xs:=aaK) (aG (by kernel_rfl) (by kernel_rfl) hR) aV af (n:=1000) (T:=wa) (λs Q=>aoQ s Q) (ok:=ok6) (f:=Cn g6_6) h6) (aH (c:=(bk (al Try.f126) 2)) (by kernel_rfl) (id:=4) (by kernel_rfl) (bn ap la mB (sh:=vY) hR (xs:=aaL) (aG (by kernel_rfl) (by kernel_rfl) hR) aV af (n:=1000) (T:=wb) (λs Q=>aoR s Q) (ok:=ok4) (f:=Co g4_4) h4) af)) (n:=1000) (T:=wc ok4 g4_4 ok6 g6_6) (λs Q=>aoS ok4 g4_4 ok6 g6_6 s Q) (ok:=ok2) (f:=Cp g2_2) h2) (aH (c:=(al Try.f126)) (by kernel_rfl) (id:=0) (by kernel_rfl) (bn ap la mB (sh:=v8) hR (xs:=aaN) (aG (by kernel_rfl) (by kernel_rfl) hR) aV af (n:=1000) (T:=we) (λs Q=>aoT s Q) (ok:=ok0) (f:=Cq g0_0) h0) af)))) (n:=1000) (sel:=RH) (λv o h=>by cases h;rfl) (pre:=pre) (F:=F) (T:=λx=>Wr ok0 g0_0 ok4 g4_4 ok6 g6_6 ok2 g2_2 ok8 g8_8 (x.1.1) (x.1.2.1) (x.1.2.2.1) (x.1.2.2.2.1)) (λx Q=>at1 ok0 g0_0 ok4 g4_4 ok6 g6_6 ok2 g2_2 ok8 g8_8 x Q) hF
def ape (b:List UInt8) (i:Nat):UInt64:=xl ((b.drop (8*i)).take 8) 8
def sr (b:List UInt8):List UInt64:=upto (λk m=>m.set k (ape b k)) (List.replicate 16 0) 16
def Le (row:List UInt8):Bool:=decide (row.length=16)&&(List.range 16).all λi=>inB (nib (row.getD i 0)) 16
theorem ag3 {row:List UInt8} (h:Le row=true) {i:Nat} (hi:i<16):inB (nib (row.getD i 0)) 16=true:=by
 simp only [Le,Bool.and_eq_true,List.all_eq_true] at h
 exact h.2 i (by simpa using hi)
theorem rB {m:List UInt64} {row:List UInt8} (hm:m.length=16) (hr:Le row=true) {i:Int} (h0:0<=i) (h1:i<16) (u:Unit×Unit×Unit) (u2:Unit) (u3:Unit):nJ ((i,u),(m,((row,u2),u3)))=true:=by
 have hl:row.length=16:=by
  simp only [Le,Bool.and_eq_true,decide_eq_true_eq] at hr
  exact hr.1
 have:=ag3 hr (i:=i.toNat) (by omega)
 simp only [nJ,Bool.and_eq_true,decide_eq_true_eq]
 exact ⟨⟨bc (by omega),this⟩,hm⟩
theorem Fx {v:List UInt64} (hv:v.length=16) {a b c d:Int} (ha:0<=a/\a<16) (hb:0<=b/\b<16) (hc:0<=c/\c<16) (hd:0<=d/\d<16) (x y:UInt64) (u1 u2 u3:Unit):nG ((u1,a,b,c,d,x,y,u2),(v,u3))=true:=by
 simp only [nG,Bool.and_eq_true,decide_eq_true_eq]
 exact ⟨⟨⟨⟨bc ha,bc hb⟩,bc hc⟩,bc hd⟩,hv⟩
def FD (s:cu):Bool:=decide (s.1.2.2.2.2.2.1=0/\s.2.2.1.length=128/\s.2.2.2.2.2.1=List.replicate 16 0)
def rr (s:cu):kq:=(((),(),(),(),()),(s.2.1,s.2.2.2.1,s.2.2.2.2.1,sr s.2.2.1,()))
theorem aoZ:∀ s:cu,FD s=true->∃ m e,aA we m s=some e/\(Cq rr s).run=some e:=by
 rintro ⟨⟨⟨⟩,⟨⟩,⟨⟩,⟨⟩,⟨⟩,i,⟨⟩⟩,⟨c0,c1,c2,c3,c4,⟨⟩⟩⟩ h
 have h':=of_decide_eq_true h
 dsimp only at h'
 obtain ⟨rfl,hl,rfl⟩:=h'
 have:=(bw (T:=we) (λk m=>((((),(),(),(),(),(k:Int),()),(c0,c1,c2,c3,m,())):cu)) (λk m=>m.set k (ape c1 k))
  (λm=>(⟨(.exit 0,rA),(((),(),(),(),()),(c0,c2,c3,m,()))⟩:aJ)) 16 (List.replicate 16 0) (λ_ m=>m.length=16) (by simp) (λk m hk hm=>⟨?_,by rw [List.length_set];exact hm⟩) (λm hm=> ?_)).1
 ·obtain ⟨n,hn⟩:=this
  exact ⟨n,_,hn,rfl⟩
 ·have e1:(8*(k:Int)+8-8*(k:Int)).toNat=8:=by omega
  have e2:(8*(k:Int)).toNat=8*k:=by omega
  have hw:((c1.drop (8*k)).take 8).length=8:=by simp;omega
  refine (OT.au (decide_eq_true (by dsimp only;omega))).trans ((ah ?_).trans ?_)
  ·simp only [e1,e2,hl,hm,List.all_cons,List.all_nil,Bool.and_true,Bool.and_eq_true]
   refine ⟨aS (by omega),aS (by omega),aS (by omega),⟨by decide,cg (by omega)⟩,?_,bc (by omega),decide_eq_true (by omega),aS (by omega)⟩
   simp only [ki,hw]
   decide
  ·simp only [OT.eC,e1,e2,hw,Nat.add_zero]
   rfl
 ·exact OT.aw (decide_eq_false (by dsimp only;omega))
def aiS (m:List UInt64) (row:List UInt8) (v:List UInt64):List UInt64:=upto (λk v=>anY v k (4+k) (8+k) (12+k) (atF m row (2*(k:Int))) (atF m row (2*(k:Int)+1))) v 4
def aiR (m:List UInt64) (row:List UInt8) (v:List UInt64):List UInt64:=upto (λk v=>anY v k (4+(k+1)%4) (8+(k+2)%4) (12+(k+3)%4) (atF m row (8+2*(k:Int))) (atF m row (9+2*(k:Int)))) v 4
theorem o5 (m:List UInt64) (row:List UInt8) (v:List UInt64):(aiS m row v).length=v.length:=by simp only [aiS,upto,np]
theorem AE (m:List UInt64) (row:List UInt8) (v:List UInt64):(aiR m row v).length=v.length:=by simp only [aiR,upto,np]
def mm (s:bK):Bool:=decide (s.1.2.2.2.2.2.2.2.1=0/\s.2.2.2.1.length=16/\s.2.2.2.2.1.length=16)&&Le s.2.2.2.2.2.2.1.1
def nI (s:bK):e5:=(((),(),(),(),(),(),s.1.2.2.2.2.2.2.1,()),(s.2.1,s.2.2.1,aiS s.2.2.2.2.1 s.2.2.2.2.2.2.1.1 s.2.2.2.1,s.2.2.2.2.1,s.2.2.2.2.2.1,(s.2.2.2.2.2.2.1.1,()),()))
theorem aoX:∀ s:bK,mm s=true->∃ m e,aA wb m s=some e/\(Co nI s).run=some e:=by
 rintro ⟨⟨⟨⟩,⟨⟩,⟨⟩,⟨⟩,⟨⟩,⟨⟩,r,i,⟨⟩⟩,⟨c0,c1,v,m,c4,⟨row,⟨⟩⟩,⟨⟩⟩⟩ h
 simp only [mm,Bool.and_eq_true,decide_eq_true_eq] at h
 obtain ⟨⟨rfl,hv,hm⟩,hr⟩:=h
 have:=(bw (T:=wb) (λk v=>((((),(),(),(),(),(),r,(k:Int),()),(c0,c1,v,m,c4,(row,()),())):bK)) (λk v=>anY v k (4+k) (8+k) (12+k) (atF m row (2*(k:Int))) (atF m row (2*(k:Int)+1)))
  (λv=>(⟨(.exit 4,ry),(((),(),(),(),(),(),r,()),(c0,c1,v,m,c4,(row,()),()))⟩:aJ)) 4 v (λ_ v=>v.length=16) hv (λk v hk hv=>⟨?_,by rw [np];exact hv⟩) (λv hv=> ?_)).1
 ·obtain ⟨n,hn⟩:=this
  exact ⟨n,_,hn,rfl⟩
 ·have e1:(4+(k:Int)).toNat=4+k:=by omega
  have e2:(8+(k:Int)).toNat=8+k:=by omega
  have e3:(12+(k:Int)).toNat=12+k:=by omega
  refine (OT.au (decide_eq_true (by dsimp only;omega))).trans ((ah ?_).trans ?_)
  ·simp only [List.all_cons,List.all_nil,Bool.and_true,Bool.and_eq_true]
   exact ⟨aS (by omega),aS (by omega),aS (by omega),aS (by omega),rB hm hr (by omega) (by omega) _ _ _,aS (by omega),aS (by omega),rB hm hr (by omega) (by omega) _ _ _,Fx hv (by omega) (by omega) (by omega) (by omega) _ _ _ _ _,aS (by omega)⟩
  ·simp only [OT.eC,e1,e2,e3]
   rfl
 ·exact OT.aw (decide_eq_false (by dsimp only;omega))
def ml (s:bJ):Bool:=decide (s.1.2.2.2.2.2.2.2.1=0/\s.2.2.2.1.length=16/\s.2.2.2.2.1.length=16)&&Le s.2.2.2.2.2.2.1.1
def rp (s:bJ):eZ:=(((),(),(),(),(),s.1.2.2.2.2.2.2.1,()),(s.2.1,s.2.2.1,aiR s.2.2.2.2.1 s.2.2.2.2.2.2.1.1 s.2.2.2.1,s.2.2.2.2.1,s.2.2.2.2.2.1,()))
theorem aoW:∀ s:bJ,ml s=true->∃ m e,aA wa m s=some e/\(Cn rp s).run=some e:=by
 rintro ⟨⟨⟨⟩,⟨⟩,⟨⟩,⟨⟩,⟨⟩,⟨⟩,r,i,⟨⟩⟩,⟨c0,c1,v,m,c4,⟨row,⟨⟩⟩,⟨⟩⟩⟩ h
 simp only [ml,Bool.and_eq_true,decide_eq_true_eq] at h
 obtain ⟨⟨rfl,hv,hm⟩,hr⟩:=h
 have:=(bw (T:=wa) (λk v=>((((),(),(),(),(),(),r,(k:Int),()),(c0,c1,v,m,c4,(row,()),())):bJ)) (λk v=>anY v k (4+(k+1)%4) (8+(k+2)%4) (12+(k+3)%4) (atF m row (8+2*(k:Int))) (atF m row (9+2*(k:Int))))
  (λv=>(⟨(.exit 6,rv),(((),(),(),(),(),r,()),(c0,c1,v,m,c4,()))⟩:aJ)) 4 v (λ_ v=>v.length=16) hv (λk v hk hv=>⟨?_,by rw [np];exact hv⟩) (λv hv=> ?_)).1
 ·obtain ⟨n,hn⟩:=this
  exact ⟨n,_,hn,rfl⟩
 ·have t1:Int.tmod ((k:Int)+1) 4=(((k+1)%4:Nat):Int):=by rw [Int.tmod_eq_emod_of_nonneg (by omega)];omega
  have t2:Int.tmod ((k:Int)+2) 4=(((k+2)%4:Nat):Int):=by rw [Int.tmod_eq_emod_of_nonneg (by omega)];omega
  have t3:Int.tmod ((k:Int)+3) 4=(((k+3)%4:Nat):Int):=by rw [Int.tmod_eq_emod_of_nonneg (by omega)];omega
  have e1:(4+(((k+1)%4:Nat):Int)).toNat=4+(k+1)%4:=by omega
  have e2:(8+(((k+2)%4:Nat):Int)).toNat=8+(k+2)%4:=by omega
  have e3:(12+(((k+3)%4:Nat):Int)).toNat=12+(k+3)%4:=by omega
  refine (OT.au (decide_eq_true (by dsimp only;omega))).trans ((ah ?_).trans ?_)
  ·simp only [t1,t2,t3,List.all_cons,List.all_nil,Bool.and_true,Bool.and_eq_true]
   exact ⟨aS (by omega),aS (by omega),aS (by omega),aS (by omega),aS (by omega),aS (by omega),aS (by omega),aS (by omega),rB hm hr (by omega) (by omega) _ _ _,aS (by omega),aS (by omega),rB hm hr (by omega) (by omega) _ _ _,Fx hv (by omega) (by omega) (by omega) (by omega) _ _ _ _ _,aS (by omega)⟩
  ·simp only [OT.eC,t1,t2,t3,e1,e2,e3]
   rfl
 ·exact OT.aw (decide_eq_false (by dsimp only;omega))
def rowAt (k:Nat):List UInt8:=fQ.getD (k%10) []
theorem amY (k:Nat):Le (rowAt k)=true:=by
 have:k%10<10:=Nat.mod_lt _ (by decide)
 unfold rowAt
 generalize k%10=j at this
 have h:∀ j:Fin 10,Le (fQ.getD j.val [])=true:=by decide+kernel
 exact h ⟨j,this⟩
def uI (m:List UInt64) (v:List UInt64):List UInt64:=upto (λk v=>aiR m (rowAt k) (aiS m (rowAt k) v)) v 12
theorem mH {f:Nat->List UInt64->List UInt64} (hf:∀ k v,(f k v).length=v.length) (v:List UInt64):∀ n,(upto f v n).length=v.length
 |0=>rfl
 |n+1=>by simp only [upto,hf,mH hf v n]
def FC (s:ct):Bool:=decide (s.1.2.2.2.2.2.1=0/\s.2.2.2.1.length=16/\s.2.2.2.2.1.length=16/\s.2.2.2.2.2.1=fQ)
def rq (s:ct):kp:=(((),(),(),()),(s.2.1,s.2.2.1,uI s.2.2.2.2.1 s.2.2.2.1,()))
theorem aoY:∀ s:ct,FC s=true->∃ m e,aA (wc mm nI ml rp) m s=some e/\(Cp rq s).run=some e:=by
 rintro ⟨⟨⟨⟩,⟨⟩,⟨⟩,⟨⟩,⟨⟩,i,⟨⟩⟩,⟨c0,c1,v,m,c4,⟨⟩⟩⟩ h
 have h':=of_decide_eq_true h
 dsimp only at h'
 obtain ⟨rfl,hv,hm,rfl⟩:=h'
 have:=(bw (T:=wc mm nI ml rp) (λk v=>((((),(),(),(),(),(k:Int),()),(c0,c1,v,m,fQ,())):ct)) (λk v=>aiR m (rowAt k) (aiS m (rowAt k) v))
  (λv=>(⟨(.exit 2,rz),(((),(),(),()),(c0,c1,v,()))⟩:aJ)) 12 v (λ_ v=>v.length=16) hv (λk v hk hv=>⟨?_,by rw [AE,o5];exact hv⟩) (λv hv=> ?_)).1
 ·obtain ⟨n,hn⟩:=this
  exact ⟨n,_,hn,rfl⟩
 ·have t1:Int.tmod (k:Int) 10=((k%10:Nat):Int):=by rw [Int.tmod_eq_emod_of_nonneg (by omega)];omega
  have e1:((k%10:Nat):Int).toNat=k%10:=by omega
  have hr:Le (fQ.getD (k%10) [])=true:=amY k
  refine (OT.au (decide_eq_true (by dsimp only;omega))).trans ((ah ?_).trans ?_)
  ·simp only [t1,e1,List.all_cons,List.all_nil,Bool.and_true,Bool.and_eq_true]
   refine ⟨bc (by omega),decide_eq_true (show k%10+0<10 by omega),?_,?_,?_⟩
   ·simp only [mm,Bool.and_eq_true,decide_eq_true_eq]
    exact ⟨⟨trivial,hv,hm⟩,hr⟩
   ·simp only [ml,nI,Bool.and_eq_true,decide_eq_true_eq]
    exact ⟨⟨trivial,by rw [o5];exact hv,hm⟩,hr⟩
   ·exact aS (by simp only [rp,nI];omega)
  ·have hrow:fQ.getD (k%10) []=rowAt k:=rfl
   simp only [OT.eC,t1,e1,Nat.add_zero,rp,nI,hrow]
   rfl
 ·exact OT.aw (decide_eq_false (by dsimp only;omega))
def Zp (h v:List UInt64):List UInt64:=upto (λk h=>h.set k (h.getD k 0^^^(v.getD k 0^^^v.getD (k+8) 0))) h 8
def FB (s:cr):Bool:=decide (s.1.2.2.2.1=0/\s.2.1.length=8/\s.2.2.2.1.length=16)
def rn (s:cr):ko:=(((),(),()),(Zp s.2.1 s.2.2.2.1,s.2.2.1,()))
theorem aoV:∀ s:cr,FB s=true->∃ m e,aA v9 m s=some e/\(Cm rn s).run=some e:=by
 rintro ⟨⟨⟨⟩,⟨⟩,⟨⟩,i,⟨⟩⟩,⟨h,c1,v,⟨⟩⟩⟩ hh
 have h':=of_decide_eq_true hh
 dsimp only at h'
 obtain ⟨rfl,hl,hv⟩:=h'
 have:=(bw (T:=v9) (λk h=>((((),(),(),(k:Int),()),(h,c1,v,())):cr)) (λk h=>h.set k (h.getD k 0^^^(v.getD k 0^^^v.getD (k+8) 0)))
  (λh=>(⟨(.exit 8,ru),(((),(),()),(h,c1,()))⟩:aJ)) 8 h (λ_ h=>h.length=8) hl (λk h hk hl=>⟨?_,by rw [List.length_set];exact hl⟩) (λh hl=> ?_)).1
 ·obtain ⟨n,hn⟩:=this
  exact ⟨n,_,hn,rfl⟩
 ·have e1:((k:Int)+8).toNat=k+8:=by omega
  refine (OT.au (decide_eq_true (by dsimp only;omega))).trans ((ah ?_).trans ?_)
  ·simp only [e1,hl,hv,List.all_cons,List.all_nil,Bool.and_true,Bool.and_eq_true]
   exact ⟨bc (by omega),decide_eq_true (by omega),bc (by omega),decide_eq_true (by omega),aS (by omega),bc (by omega),decide_eq_true (by omega),bc (by omega),decide_eq_true (by omega),aS (by omega)⟩
  ·simp only [OT.eC,e1,Nat.add_zero]
   rfl
 ·exact OT.aw (decide_eq_false (by dsimp only;omega))
def LX (h:List UInt64) (count:UInt64) (last:Bool):List UInt64:=
 let v:=(h++bIV).set 12 ((h++bIV).getD 12 0^^^count)
 cond last (v.set 14 (~~~v.getD 14 0)) v
def yW (h:List UInt64) (b:List UInt8) (count:UInt64) (last:Bool):List UInt64:=Zp h (uI (sr b) (LX h count last))
theorem Hk (b:List UInt8):(sr b).length=16:=by
 unfold sr;rw [mH (λk v=>List.length_set)];rfl
theorem Dd (m v:List UInt64):(uI m v).length=v.length:=mH (λk v=>by rw [AE,o5]) v 12
theorem va (h v:List UInt64):(Zp h v).length=h.length:=mH (λk v=>List.length_set) h 8
theorem AS {b:List UInt8} {c0 c2 c3:List UInt64} (hb:b.length=128):FD (((),(),(),(),(),0,()),(c0,b,c2,c3,[0,0,0,0,0,0,0,0,0,0,0,0,0,0,0,0],()))=true:=decide_eq_true ⟨rfl,hb,rfl⟩
theorem AR {c0 c1 v m:List UInt64} (hv:v.length=16) (hm:m.length=16):FC (((),(),(),(),(),0,()),(c0,c1,v,m,fQ,()))=true:=decide_eq_true ⟨rfl,hv,hm,rfl⟩
theorem AQ {c0 c1 v:List UInt64} (h0:c0.length=8) (hv:v.length=16):FB (((),(),(),0,()),(c0,c1,v,()))=true:=decide_eq_true ⟨rfl,h0,hv⟩
def FA (x:Kq):Bool:=decide (x.1.1.length=8/\x.1.2.1.length=128)
def akJ (x:Kq):OT kr.Y:=.ok ⟨Cl,((yW x.1.1 x.1.2.1 x.1.2.2.1 x.1.2.2.2.1,()),())⟩
theorem aoU:aa Try.prog 126 (kr.aD FA akJ):=aef FD rr mm nI ml rp FC rq FB rn aoZ aoX aoW aoY aoV _ _ λx oy hp ho=>by
 rw [<-ho]
 obtain ⟨⟨h,b,count,last,⟨⟩⟩,⟨⟩⟩:=x
 simp only [FA,decide_eq_true_eq] at hp
 obtain ⟨hh,hb⟩:=hp
 have t1:tab h 8 0=h:=Ah hh
 have t2:tab b 128 0=b:=Ah hb
 have t3:tab fQ 10 []=fQ:=Ah rfl
 have v1: []++(List.take 8 h++List.drop (0+min h.length 8) [(0:UInt64),0,0,0,0,0,0,0,0,0,0,0,0,0,0,0])=h++List.replicate 8 0:=by
  rw [hh,List.nil_append,List.take_of_length_le (by omega)];rfl
 have v2:List.take 8 (h++List.replicate 8 (0:UInt64))++(bIV++List.drop 16 (h++List.replicate 8 (0:UInt64)))=h++bIV:=by
  rw [List.take_append_of_le_length (by omega),List.take_of_length_le (by omega),List.drop_eq_nil_of_le (by simp;omega),List.append_nil]
 have hv:∀ c l,(LX h c l).length=16:=λc l=>by
  unfold LX
  cases l<;>simp [hh]<;>rfl
 have hm:(sr b).length=16:=Hk b
 have hr:∀ c l,(uI (sr b) (LX h c l)).length=16:=λc l=>by rw [Dd];exact hv c l
 have hM:∀ c l,(yW h b c l).length=8:=λc l=>by unfold yW;rw [va];exact hh
 have e8: [(7640891576956012808:UInt64),13503953896175478587,4354685564936845355,11912009170470909681,5840696475078001361,11170449401992604703,2270897969802886507,6620516959819538809]=bIV:=rfl
 have key:∀ M:List UInt64,M.length=8->tab (lay [(0:UInt64),0,0,0,0,0,0,0] M 8 0) 8 0=M:=λM hM=>by rw [PJ (n:=8) rfl hM,Ah hM]
 have l1:List.set (h++bIV) 12 ((h++bIV).getD 12 0^^^count)=LX h count false:=rfl
 have l2:List.set (LX h count false) 14 (~~~(LX h count false).getD 14 0)=LX h count true:=rfl
 have l3:∀ c l,Zp h (uI (sr b) (LX h c l))=yW h b c l:=λ_ _=>rfl
 cases last
 ·refine (OT.aw rfl).trans ((ah ?_).trans ?_)
  ·simp only [t1,t2,t3,v1,List.all_cons,List.all_nil,Bool.and_true,Bool.and_eq_true]
   rw [e8]
   simp only [v2,rr,rq,rn,l1,l3,lP,hM]
   exact ⟨AS hb,AR (hv _ _) hm,AQ hh (hr _ _),rfl,rfl,rfl⟩
  ·simp only [t1,t2,t3,v1]
   rw [e8]
   simp only [v2,rr,rq,rn,l1,l3]
   rw [key _ (hM _ _)]
   rfl
 ·refine (OT.au rfl).trans ((ah ?_).trans ?_)
  ·simp only [t1,t2,t3,v1,List.all_cons,List.all_nil,Bool.and_true,Bool.and_eq_true]
   rw [e8]
   simp only [v2,rr,rq,rn,l1,l2,l3,lP,hM]
   exact ⟨AS hb,AR (hv _ _) hm,AQ hh (hr _ _),rfl,rfl,rfl⟩
  ·simp only [t1,t2,t3,v1]
   rw [e8]
   simp only [v2,rr,rq,rn,l1,l2,l3]
   rw [key _ (hM _ _)]
   rfl
def zh:bI:=(kr.aD FA akJ)
theorem Wq:aa Try.prog 126 zh:=aoU
theorem Wp:aC zh:=ax
def Hg:Env:=av 126 zh HY
theorem Ab:aI Try.prog Hg:=ag Wq la
theorem BB:aq Hg:=ab Wp KF
theorem W4:aP Try.prog te Hg:=aF follows ap Ab BB
def gN:ao:=⟨[.val false (.list .u8)],[],true,0,false⟩
abbrev Ws:Type:=((List (UInt8))×Unit)×(Unit)
def pQ:ar:=⟨[.own 0],[(0,.row .u8)],false⟩
def Kr:SV->Option ar:=λ_=>some pQ
def Nb (a0:List (UInt8)):OT gN.Y:=
 (gd [decide (((0:Nat)+List.length a0)*(1:Nat)<=(140737488355328:Nat))] (.ok ⟨pQ,(((),()),([]++a0,()))⟩))
def akL:OT gN.Y:=.ok ⟨pQ,(((),()),([],()))⟩
theorem ao5 (x:Ws) (Q:gN.Y->Prop):wpf te Hg ay 1000 Try.f32 (gN.inp.inj x).tm (gN.inp.inj x).hp (fnK gN Kr Q) (λ_ _=>False)=
 Bool.rec (motive:=λ_=>Prop) ((Nb x.1.1).wpR Q) (akL.wpR Q/\(Nb x.1.1).wpR Q) (List.isEmpty x.1.1):=by kernel_rfl
def dS (x:Ws):Bool:=decide (x.1.1.length<=140737488355328)
def aaO (x:Ws):OT gN.Y:=.ok ⟨pQ,(((),()),(x.1.1,()))⟩
theorem akK:aa Try.prog 32 (gN.aD dS aaO):=by
 refine aog ap Ab W4 (f:=32) (fn:=Try.f32) (c:=al Try.f32) (by kernel_rfl) (by kernel_rfl) (by kernel_rfl) (S:=gN) (k:=0) (by kernel_rfl) (Λ:=ay) (λR hR=>af) (n:=1000) λx oy hp hr=>⟨fnK gN Kr (λz=>z=oy),λ_ _=>False,?_,λv hp hq=> ?_,λ_ _ hq=>hq.elim⟩
 ·refine (ao5 x _).mpr ?_
  cases hr
  have hp':x.1.1.length<=140737488355328:=of_decide_eq_true hp
  have h1:(Nb x.1.1).wpR (λz=>z=⟨pQ,(((),()),(x.1.1,()))⟩):=by
   rw [OT.NQ]
   refine OT.oe (ah ?_) rfl
   simp only [List.all_cons,List.all_nil,Bool.and_true]
   exact decide_eq_true (by omega)
  cases hb:List.isEmpty x.1.1
  ·exact h1
  ·refine ⟨?_,h1⟩
   rw [List.isEmpty_iff.1 hb]
   rfl
 ·unfold fnK at hq
  split at hq
  ·rename_i o ho
   split at hq
   ·rename_i y hy
    subst hq
    exact ⟨by cases ho;rfl,hy⟩
   ·exact hq.elim
  ·exact hq.elim
def tq:bI:=(gN.aD dS aaO)
theorem RJ:aa Try.prog 32 tq:=akK
theorem RI:aC tq:=ax
def xf:Env:=av 32 tq Hg
theorem tP:aI Try.prog xf:=ag RJ Ab
theorem xe:aq xf:=ab RI BB
theorem SD:aP Try.prog te xf:=aF follows ap tP xe
def pM:ao:=⟨[.val false .str,.val false .int],[],true,0,false⟩
abbrev ad9:Type:=((List UInt8)×(Int)×Unit)×(Unit)
def Ft:ar:=⟨[.ng,.val false .int],[],false⟩
def Wc:ar:=⟨[.ptr 0 0 0,.val false .int],[(0,.cells [.val false .int,.val false .u64,.val false .u64,.val false .u64,.val false .u64,.val false .u64,.val false .u64,.val false .u64,.val false .u64,.own 1,.val false .u64]),(1,.row .u8)],false⟩
def Rm:List ar:= [Ft,Wc]
def Fu (a0:List UInt8) (a1:Int):OT pM.Y:=
 let z0:List UInt8:=List.take 16 a0++List.drop (List.length a0) [(0:UInt8),(0:UInt8),(0:UInt8),(0:UInt8),(0:UInt8),(0:UInt8),(0:UInt8),(0:UInt8),(0:UInt8),(0:UInt8),(0:UInt8),(0:UInt8),(0:UInt8),(0:UInt8),(0:UInt8),(0:UInt8)]
 let z1:Bool:=decide (16<=List.length z0)&&true
 let z2:List UInt8:=List.take 8 (List.drop 0 z0)
 let z3:List UInt8:=List.take 8 (List.drop 8 z0)
 (.br (decide ((16:Int)<(↑(List.length a0):Int)))
 (.ok ⟨Ft,(((),((30:Int),())),())⟩)
 (.br (decide (a1<(1:Int)))
  (.ok ⟨Ft,(((),((30:Int),())),())⟩)
  (.br (decide ((64:Int)<a1))
   (.ok ⟨Ft,(((),((30:Int),())),())⟩)
   (gd [z1,ki ((z2,()),()),z1,ki ((z3,()),())] (.ok ⟨Wc,(((),((0:Int),())),((a1,((7640891576956012808:UInt64)^^^(16842752:UInt64)+i2u a1,((13503953896175478587:UInt64),((4354685564936845355:UInt64),((11912009170470909681:UInt64),((5840696475078001361:UInt64),((11170449401992604703:UInt64),((2270897969802886507:UInt64)^^^xl z2 (List.length z2),((6620516959819538809:UInt64)^^^xl z3 (List.length z3),((),((0:UInt64),()))))))))))),([],())))⟩)))))
theorem avU (x:ad9) (Q:pM.Y->Prop):wpf te xf ay 1000 Try.f84 (pM.inp.inj x).tm (pM.inp.inj x).hp (aoi pM Rm Q) (λ_ _=>False)=(Fu (x.1.1) (x.1.2.1)).wpR Q:=by kernel_rfl
theorem akv (pre:ad9->Bool) (F:ad9->OT pM.Y) (hF:∀ (x:ad9) oy,pre x=true->(F x).run=some oy->(Fu (x.1.1) (x.1.2.1)).run=some oy):aa Try.prog 84 (pM.aD pre F):=
 Ce ap tP SD (f:=84) (fn:=Try.f84) (c:=al Try.f84) (by kernel_rfl) (by kernel_rfl) (by kernel_rfl) (S:=pM) (k:=0) (by kernel_rfl) (λR hR=>af) (n:=1000) (outs:=Rm) (by kernel_rfl) (pre:=pre) (F:=F) (T:=λx=>Fu (x.1.1) (x.1.2.1)) (λx Q=>avU x Q) hF
def UJ (p:List UInt8):List UInt8:=p.take 16++(List.replicate 16 (0:UInt8)).drop p.length
def wg (p:List UInt8) (n:Int):Bool:=decide (16<(p.length:Int))||decide (n<1)||decide (64<n)
theorem Px {p:List UInt8} (h:p.length<=16):(UJ p).length=16:=by
 simp only [UJ,List.length_append,List.length_take,List.length_drop,List.length_replicate]
 omega
abbrev tS:Type:=Int×UInt64×UInt64×UInt64×UInt64×UInt64×UInt64×UInt64×UInt64×Unit×UInt64×Unit
def awe (n:Int) (h:List UInt64) (c:UInt64):tS:=(n,h.getD 0 0,h.getD 1 0,h.getD 2 0,h.getD 3 0,h.getD 4 0,h.getD 5 0,h.getD 6 0,h.getD 7 0,(),c,())
def awT (p:List UInt8) (n:Int):List UInt64:= [0x6a09e667f3bcc908^^^(16842752+i2u n),0xbb67ae8584caa73b,0x3c6ef372fe94f82b,0xa54ff53a5f1d36f1,0x510e527fade682d1,0x9b05688c2b3e6c1f,
 0x1f83d9abfb41bd6b^^^xl ((UJ p).take 8) 8,0x5be0cd19137e2179^^^xl (((UJ p).drop 8).take 8) 8]
def aaD (_:ad9):Bool:=true
def Kh (x:ad9):OT pM.Y:=.br (wg x.1.1 x.1.2.1) (.ok ⟨Ft,(((),((30:Int),())),())⟩)
 (.ok ⟨Wc,(((),((0:Int),())),(awe x.1.2.1 (awT x.1.1 x.1.2.1) 0,([],())))⟩)
theorem atY:aa Try.prog 84 (pM.aD aaD Kh):=akv _ _ λx oy _ ho=>by
 rw [<-ho]
 obtain ⟨⟨p,n,⟨⟩⟩,⟨⟩⟩:=x
 clear ho
 by_cases h1:16<(p.length:Int)
 ·have e1:decide (16<(p.length:Int))=true:=decide_eq_true h1
  have eb:wg p n=true:=by simp only [wg,e1,Bool.true_or]
  simp only [Kh,Fu,e1,eb]
  rfl
 ·have e1:decide (16<(p.length:Int))=false:=decide_eq_false h1
  by_cases h2:n<1
  ·have e2:decide (n<1)=true:=decide_eq_true h2
   have eb:wg p n=true:=by simp only [wg,e1,e2,Bool.true_or,Bool.false_or]
   simp only [Kh,Fu,e1,e2,eb]
   rfl
  ·have e2:decide (n<1)=false:=decide_eq_false h2
   by_cases h3:64<n
   ·have e3:decide (64<n)=true:=decide_eq_true h3
    have eb:wg p n=true:=by simp only [wg,e1,e2,e3,Bool.false_or]
    simp only [Kh,Fu,e1,e2,e3,eb]
    rfl
   ·have e3:decide (64<n)=false:=decide_eq_false h3
    have eb:wg p n=false:=by simp only [wg,e1,e2,e3,Bool.false_or]
    have hl:=Px (p:=p) (by omega)
    have hp:p.take 16++List.drop p.length [(0:UInt8),0,0,0,0,0,0,0,0,0,0,0,0,0,0,0]=UJ p:=rfl
    have l1:((UJ p).take 8).length=8:=by simp only [List.length_take,hl];omega
    have l2:(((UJ p).drop 8).take 8).length=8:=by simp only [List.length_take,List.length_drop,hl];omega
    simp only [Kh,Fu,e1,e2,e3,eb,hp,List.drop_zero,l1,l2]
    refine (ah ?_).trans rfl
    simp only [ki,hl,l1,l2]
    decide
def Fs:bI:=(pM.aD aaD Kh)
theorem ad8:aa Try.prog 84 Fs:=atY
theorem ad7:aC Fs:=ax
def KE:Env:=av 84 Fs xf
theorem w7:aI Try.prog KE:=ag ad8 tP
theorem Hd:aq KE:=ab ad7 xe
theorem KD:aP Try.prog te KE:=aF follows ap w7 Hd
def NK (w:Sh):CSh:=.cells [.val false .int,.val false .u64,.val false .u64,.val false .u64,.val false .u64,.val false .u64,.val false .u64,.val false .u64,.val false .u64,w,.val false .u64]
def gI:ao:=⟨[.ptr 0 0 0,.val false (.list .u8)],[(0,NK (.own 1)),(1,.row .u8)],true,1,true⟩
def mg:Shape:=⟨61,[(0,.ptr 0 0 0)],[(0,NK (.val false (.list .u8))),(1,.gone)],2,true⟩
def nD:Shape:=mg
abbrev y4:Type:=((Unit)×(List (UInt8))×Unit)×(((Int)×(UInt64)×(UInt64)×(UInt64)×(UInt64)×(UInt64)×(UInt64)×(UInt64)×(UInt64)×(Unit)×(UInt64)×Unit)×(List (UInt8))×Unit)
abbrev bZ:Type:=((Unit)×Unit)×(((Int)×(UInt64)×(UInt64)×(UInt64)×(UInt64)×(UInt64)×(UInt64)×(UInt64)×(UInt64)×(List (UInt8))×(UInt64)×Unit)×(Unit)×Unit)
abbrev iC:Type:=((Unit)×Unit)×(((Int)×(UInt64)×(UInt64)×(UInt64)×(UInt64)×(UInt64)×(UInt64)×(UInt64)×(UInt64)×(List (UInt8))×(UInt64)×Unit)×(Unit)×Unit)
def Q8:SE->Option Shape:=kv [(0,nD)] none
def akj (c0_0:Int) (c0_1:UInt64) (c0_2:UInt64) (c0_3:UInt64) (c0_4:UInt64) (c0_5:UInt64) (c0_6:UInt64) (c0_7:UInt64) (c0_8:UInt64) (c0_9:List (UInt8)) (c0_10:UInt64):OT (Sum bZ aJ):=
 let z0:Nat:=List.length c0_9
 let z1:Int:=(↑z0:Int)
 let z2:List UInt8:=List.drop 0 (List.take 128 c0_9)
 let z3:Nat:=List.length z2
 let z4:List UInt64:=yW [c0_1,c0_2,c0_3,c0_4,c0_5,c0_6,c0_7,c0_8] (tab z2 128 (0:UInt8)) (c0_10+(128:UInt64)) false
 (.br (decide ((128:Int)<z1))
 (gd [bH (0:Int) (128:Int) z0,decide (128<=z3),decide (128<=z3),bH (128:Int) z1 z0] (.ok (.inl (((),()),((c0_0,(List.getD z4 0 0,(List.getD z4 1 0,(List.getD z4 2 0,(List.getD z4 3 0,(List.getD z4 4 0,(List.getD z4 5 0,(List.getD z4 6 0,(List.getD z4 7 0,(List.drop 128 c0_9,(c0_10+(128:UInt64),()))))))))))),((),()))))))
 (.ok (.inr ⟨(.exit 0,nD),(((),()),((c0_0,(c0_1,(c0_2,(c0_3,(c0_4,(c0_5,(c0_6,(c0_7,(c0_8,(c0_9,(c0_10,()))))))))))),((),())))⟩)))
def pJ (s:bZ):OT (Sum bZ aJ):=akj (s.2.1.1) (s.2.1.2.1) (s.2.1.2.2.1) (s.2.1.2.2.2.1) (s.2.1.2.2.2.2.1) (s.2.1.2.2.2.2.2.1) (s.2.1.2.2.2.2.2.2.1) (s.2.1.2.2.2.2.2.2.2.1) (s.2.1.2.2.2.2.2.2.2.2.1) (s.2.1.2.2.2.2.2.2.2.2.2.1) (s.2.1.2.2.2.2.2.2.2.2.2.2.1)
theorem akg (s:bZ) (Q:Sum bZ aJ->Prop):wps te KE ay 1000 (bk (al Try.f127) 0) (mg.inj s) (cO mg Q8 (Q:Sum mg.T aJ->Prop))=(pJ s).wpR Q:=by kernel_rfl
def vM (g0_0:bZ->iC) (s:bZ):OT aJ:=(.ok ⟨(.exit 0,nD),g0_0 s⟩)
def Fi:ar:=⟨[],[(0,.cells [.val false .int,.val false .u64,.val false .u64,.val false .u64,.val false .u64,.val false .u64,.val false .u64,.val false .u64,.val false .u64,.own 1,.val false .u64]),(1,.row .u8)],false⟩
def Ka:SV->Option ar:=λ_=>some Fi
def MT (ok0:bZ->Bool) (g0_0:bZ->iC) (a1:List (UInt8)) (c0_0:Int) (c0_1:UInt64) (c0_2:UInt64) (c0_3:UInt64) (c0_4:UInt64) (c0_5:UInt64) (c0_6:UInt64) (c0_7:UInt64) (c0_8:UInt64) (c0_10:UInt64) (c1:List (UInt8)):OT gI.Y:=
 let z0:(PUnit×PUnit)×(Int×UInt64×UInt64×UInt64×UInt64×UInt64×UInt64×UInt64×UInt64×List UInt8×UInt64×PUnit)×PUnit×PUnit:=(((),()),(c0_0,c0_1,c0_2,c0_3,c0_4,c0_5,c0_6,c0_7,c0_8,c1++a1,c0_10,()),(),())
 let z1:=(g0_0 z0).snd.fst
 let z2:=z1.snd
 let z3:=z2.snd
 let z4:=z3.snd
 let z5:=z4.snd
 let z6:=z5.snd
 let z7:=z6.snd
 let z8:=z7.snd
 let z9:=z8.snd
 let z10:=z9.snd
 let z11:=z10.fst
 (gd [decide ((List.length c1+List.length a1)*1<=140737488355328),ok0 z0,dS ((z11,()),())] (.ok ⟨Fi,((),((z1.fst,(z2.fst,(z3.fst,(z4.fst,(z5.fst,(z6.fst,(z7.fst,(z8.fst,(z9.fst,((),(z10.snd.fst,()))))))))))),(z11,())))⟩))
theorem aoD (ok0:bZ->Bool) (g0_0:bZ->iC) (x:y4) (Q:gI.Y->Prop):wpf te KE (bu 0 (dq mg 0 ok0 (vM g0_0)) ay) 1000 Try.f127 (gI.inp.inj x).tm (gI.inp.inj x).hp (fnK gI Ka Q) (λ_ _=>False)=(MT ok0 g0_0 (x.1.2.1) (x.2.1.1) (x.2.1.2.1) (x.2.1.2.2.1) (x.2.1.2.2.2.1) (x.2.1.2.2.2.2.1) (x.2.1.2.2.2.2.2.1) (x.2.1.2.2.2.2.2.2.1) (x.2.1.2.2.2.2.2.2.2.1) (x.2.1.2.2.2.2.2.2.2.2.1) (x.2.1.2.2.2.2.2.2.2.2.2.2.1) (x.2.2.1)).wpR Q:=by kernel_rfl
theorem V1 (ok0:bZ->Bool) (g0_0:bZ->iC) (h0:∀ s:bZ,ok0 s=true->∃ m e,aA (pJ) m s=some e/\(vM g0_0 s).run=some e) (pre:y4->Bool) (F:y4->OT gI.Y) (hF:∀ (x:y4) oy,pre x=true->(F x).run=some oy->(MT ok0 g0_0 (x.1.2.1) (x.2.1.1) (x.2.1.2.1) (x.2.1.2.2.1) (x.2.1.2.2.2.1) (x.2.1.2.2.2.2.1) (x.2.1.2.2.2.2.2.1) (x.2.1.2.2.2.2.2.2.1) (x.2.1.2.2.2.2.2.2.2.1) (x.2.1.2.2.2.2.2.2.2.2.1) (x.2.1.2.2.2.2.2.2.2.2.2.2.1) (x.2.2.1)).run=some oy):aa Try.prog 127 (gI.aD pre F):=
 aB ap w7 KD (f:=127) (fn:=Try.f127) (c:=al Try.f127) (by kernel_rfl) (by kernel_rfl) (by kernel_rfl) (S:=gI) (k:=2) (by kernel_rfl) (λR hR=>(aH (c:=(al Try.f127)) (by kernel_rfl) (id:=0) (by kernel_rfl) (bn ap w7 KD (sh:=mg) hR (xs:=Q8) (aG (by kernel_rfl) (by kernel_rfl) hR) aV af (n:=1000) (T:=pJ) (λs Q=>akg s Q) (ok:=ok0) (f:=vM g0_0) h0) af)) (n:=1000) (sel:=Ka) (λv o h=>by cases h;rfl) (pre:=pre) (F:=F) (T:=λx=>MT ok0 g0_0 (x.1.2.1) (x.2.1.1) (x.2.1.2.1) (x.2.1.2.2.1) (x.2.1.2.2.2.1) (x.2.1.2.2.2.2.1) (x.2.1.2.2.2.2.2.1) (x.2.1.2.2.2.2.2.2.1) (x.2.1.2.2.2.2.2.2.2.1) (x.2.1.2.2.2.2.2.2.2.2.1) (x.2.1.2.2.2.2.2.2.2.2.2.2.1) (x.2.2.1)) (λx Q=>aoD ok0 g0_0 x Q) hF
def atK (s:List UInt64×UInt64×List UInt8):List UInt64×UInt64×List UInt8:=(yW s.1 (s.2.2.take 128) (s.2.1+128) false,s.2.1+128,s.2.2.drop 128)
def QR (s:List UInt64×UInt64×List UInt8):List UInt64×UInt64×List UInt8:=upto (λ_ s=>atK s) s ((s.2.2.length-1)/128)
abbrev av2:Type:=Int×UInt64×UInt64×UInt64×UInt64×UInt64×UInt64×UInt64×UInt64×List UInt8×UInt64×Unit
def atM (n:Int) (s:List UInt64×UInt64×List UInt8):av2:=(n,s.1.getD 0 0,s.1.getD 1 0,s.1.getD 2 0,s.1.getD 3 0,s.1.getD 4 0,s.1.getD 5 0,s.1.getD 6 0,s.1.getD 7 0,s.2.2,s.2.1,())
def avf (x:av2):List UInt64×UInt64×List UInt8:=([x.2.1,x.2.2.1,x.2.2.2.1,x.2.2.2.2.1,x.2.2.2.2.2.1,x.2.2.2.2.2.2.1,x.2.2.2.2.2.2.2.1,x.2.2.2.2.2.2.2.2.1],x.2.2.2.2.2.2.2.2.2.2.1,x.2.2.2.2.2.2.2.2.2.1)
theorem AK {h:List UInt64} {b:List UInt8} {c:UInt64} {l:Bool} (hh:h.length=8):(yW h b c l).length=8:=by unfold yW;rw [va];exact hh
def Kb (_:bZ):Bool:=true
def Rb (s:bZ):iC:=(((),()),(atM s.2.1.1 (QR (avf s.2.1)),(),()))
theorem aki:∀ s:bZ,Kb s=true->∃ m e,aA pJ m s=some e/\(vM Rb s).run=some e:=by
 rintro ⟨⟨⟨⟩,⟨⟩⟩,⟨⟨n,h0,h1,h2,h3,h4,h5,h6,h7,w,c,⟨⟩⟩,⟨⟩,⟨⟩⟩⟩ _
 have:=(bw (T:=pJ) (λ_ s=>((((),()),(atM n s,(),())):bZ)) (λ_ s=>atK s) (λs=>(⟨(.exit 0,nD),(((),()),(atM n s,(),()))⟩:aJ)) ((w.length-1)/128) ([h0,h1,h2,h3,h4,h5,h6,h7],c,w)
  (λk s=>s.1.length=8/\s.2.2.length+128*k=w.length) ⟨rfl,by simp⟩ (λk s hk hs=>⟨?_,?_⟩) (λs hs=> ?_)).1
 ·obtain ⟨m,hm⟩:=this
  exact ⟨m,_,hm,rfl⟩
 ·obtain ⟨h,c,v⟩:=s
  obtain ⟨a1,a2⟩:=hs
  dsimp only at a1 a2
  have hv:128<v.length:=by omega
  have t1: [h.getD 0 0,h.getD 1 0,h.getD 2 0,h.getD 3 0,h.getD 4 0,h.getD 5 0,h.getD 6 0,h.getD 7 0]=h:=(rfl:_=tab h 8 0).trans (Ah a1)
  have t2:tab (v.take 128) 128 0=v.take 128:=Ah (by simp;omega)
  have t3:(v.take 128).length=128:=by simp;omega
  refine (OT.au (decide_eq_true (by dsimp only [atM];omega))).trans ((ah ?_).trans ?_)
  ·simp only [atM,List.drop_zero,t3,List.all_cons,List.all_nil,Bool.and_true,Bool.and_eq_true]
   exact ⟨cg (by omega),rfl,rfl,cg (by omega)⟩
  ·simp only [OT.eC,atM,List.drop_zero,t1,t2]
   rfl
 ·obtain ⟨h,c,v⟩:=s
  obtain ⟨a1,a2⟩:=hs
  dsimp only at a1 a2
  refine ⟨AK a1,?_⟩
  simp only [atK,List.length_drop]
  omega
 ·obtain ⟨h,c,v⟩:=s
  obtain ⟨a1,a2⟩:=hs
  dsimp only at a1 a2
  exact OT.aw (decide_eq_false (by dsimp only [atM];omega))
def DM (x:tS) (w:List UInt8):List UInt64×UInt64×List UInt8:=([x.2.1,x.2.2.1,x.2.2.2.1,x.2.2.2.2.1,x.2.2.2.2.2.1,x.2.2.2.2.2.2.1,x.2.2.2.2.2.2.2.1,x.2.2.2.2.2.2.2.2.1],x.2.2.2.2.2.2.2.2.2.2.1,w)
def Cx (s:List UInt64×UInt64×List UInt8) (b:List UInt8):List UInt64×UInt64×List UInt8:=QR (s.1,s.2.1,s.2.2++b)
theorem aak (s:List UInt64×UInt64×List UInt8):∀ k,(upto (λ_ s=>atK s) s k).2.2.length<=s.2.2.length
 |0=>Nat.le_refl _
 |k+1=>by
  have:=aak s k
  show (List.drop 128 (upto (λ_ s=>atK s) s k).2.2).length<=_
  rw [List.length_drop]
  omega
theorem ajT (s:List UInt64×UInt64×List UInt8):∀ k,(upto (λ_ s=>atK s) s k).2.2.length=s.2.2.length-128*k
 |0=>rfl
 |k+1=>by
  have:=ajT s k
  show (List.drop 128 (upto (λ_ s=>atK s) s k).2.2).length=_
  rw [List.length_drop,this]
  omega
theorem JV (s:List UInt64×UInt64×List UInt8):(QR s).2.2.length<=128:=by
 unfold QR
 rw [ajT]
 omega
def y0 (x:y4):Bool:=decide (x.2.2.1.length+x.1.2.1.length<=140737488355328)
def aas (x:y4):OT gI.Y:=.ok ⟨Fi,((),(awe x.2.1.1 (Cx (DM x.2.1 x.2.2.1) x.1.2.1).1 (Cx (DM x.2.1 x.2.2.1) x.1.2.1).2.1,((Cx (DM x.2.1 x.2.2.1) x.1.2.1).2.2,())))⟩
theorem akh:aa Try.prog 127 (gI.aD y0 aas):=V1 Kb Rb aki _ _ λx oy hp ho=>by
 rw [<-ho]
 clear ho
 obtain ⟨⟨⟨⟩,b,⟨⟩⟩,⟨⟨n,h0,h1,h2,h3,h4,h5,h6,h7,⟨⟩,c,⟨⟩⟩,w,⟨⟩⟩⟩:=x
 have hp':=of_decide_eq_true hp
 dsimp only at hp'
 refine (ah ?_).trans rfl
 simp only [List.all_cons,List.all_nil,Bool.and_true,Bool.and_eq_true]
 refine ⟨decide_eq_true (by omega),rfl,decide_eq_true ?_⟩
 have:=aak ([h0,h1,h2,h3,h4,h5,h6,h7],c,w++b) (((w++b).length-1)/128)
 show (QR ([h0,h1,h2,h3,h4,h5,h6,h7],c,w++b)).2.2.length<=_
 refine Nat.le_trans this ?_
 show (w++b).length<=_
 rw [List.length_append]
 exact hp'
def tf:bI:=(gI.aD y0 aas)
theorem Ra:aa Try.prog 127 tf:=akh
theorem Q9:aC tf:=ax
def rP:Env:=av 127 tf KE
theorem nT:aI Try.prog rP:=ag Ra w7
theorem wV:aq rP:=ab Q9 Hd
theorem Bw:aP Try.prog te rP:=aF follows ap nT wV
def pK:ao:=⟨[.ptr 0 0 0],[(0,NK (.own 1)),(1,.row .u8)],false,2,true⟩
abbrev ad2:Type:=((Unit)×Unit)×(((Int)×(UInt64)×(UInt64)×(UInt64)×(UInt64)×(UInt64)×(UInt64)×(UInt64)×(UInt64)×(Unit)×(UInt64)×Unit)×(List (UInt8))×Unit)
def Fl:Shape:=⟨51,[(5,.ptr 2 0 0),(6,.own 3),(33,.val false .int),(34,.val false .int)],[(0,.cells [.val false .int,.val false .u64,.val false .u64,.val false .u64,.val false .u64,.val false .u64,.val false .u64,.val false .u64,.val false .u64,.own 1,.val false .u64]),(1,.row .u8),(2,.row .u64),(3,.row .u8)],2,true⟩
abbrev df:Type:=((Unit)×(Unit)×(Int)×(Int)×Unit)×(((Int)×(UInt64)×(UInt64)×(UInt64)×(UInt64)×(UInt64)×(UInt64)×(UInt64)×(UInt64)×(Unit)×(UInt64)×Unit)×(List (UInt8))×(List (UInt64))×(List (UInt8))×Unit)
def vO:Shape:=⟨51,[(6,.own 2)],[(0,.cells [.val false .int,.val false .u64,.val false .u64,.val false .u64,.val false .u64,.val false .u64,.val false .u64,.val false .u64,.val false .u64,.own 1,.val false .u64]),(1,.row .u8),(2,.row .u8)],2,true⟩
abbrev mh:Type:=((Unit)×Unit)×(((Int)×(UInt64)×(UInt64)×(UInt64)×(UInt64)×(UInt64)×(UInt64)×(UInt64)×(UInt64)×(Unit)×(UInt64)×Unit)×(List (UInt8))×(List (UInt8))×Unit)
def akl:SE->Option Shape:=kv [(0,vO)] none
def atW (a33:Int) (a34:Int) (c0_0:Int) (c0_1:UInt64) (c0_2:UInt64) (c0_3:UInt64) (c0_4:UInt64) (c0_5:UInt64) (c0_6:UInt64) (c0_7:UInt64) (c0_8:UInt64) (c0_10:UInt64) (c1:List (UInt8)) (c2:List (UInt64)) (c3:List (UInt8)):OT (Sum df aJ):=
 let z0:Int:=Int.tdiv a34 (8:Int)
 let z1:Int:=(8:Int)*Int.tmod a34 (8:Int)
 let z2:Nat:=List.length c3
 let z3:Nat:=Int.toNat a34
 (.br (decide (a34<a33))
 (gd [true&&inR z0,inB z0 8,decide (Int.toNat z0+0<List.length c2),inR z1,decide ((0:Int)<=z1),inB a34 z2,decide (z3<z2),inR (a34+(1:Int))] (.ok (.inl (((),((),(a33,(a34+(1:Int),())))),((c0_0,(c0_1,(c0_2,(c0_3,(c0_4,(c0_5,(c0_6,(c0_7,(c0_8,((),(c0_10,()))))))))))),(c1,(c2,(List.set c3 z3 (UInt64.toUInt8 (aT (List.getD c2 (Int.toNat z0+0) (0:UInt64)) z1)),()))))))))
 (.ok (.inr ⟨(.exit 0,vO),(((),()),((c0_0,(c0_1,(c0_2,(c0_3,(c0_4,(c0_5,(c0_6,(c0_7,(c0_8,((),(c0_10,()))))))))))),(c1,(c3,()))))⟩)))
def Fm (s:df):OT (Sum df aJ):=atW (s.1.2.2.1) (s.1.2.2.2.1) (s.2.1.1) (s.2.1.2.1) (s.2.1.2.2.1) (s.2.1.2.2.2.1) (s.2.1.2.2.2.2.1) (s.2.1.2.2.2.2.2.1) (s.2.1.2.2.2.2.2.2.1) (s.2.1.2.2.2.2.2.2.2.1) (s.2.1.2.2.2.2.2.2.2.2.1) (s.2.1.2.2.2.2.2.2.2.2.2.2.1) (s.2.2.1) (s.2.2.2.1) (s.2.2.2.2.1)
theorem atT (s:df) (Q:Sum df aJ->Prop):wps te rP ay 1000 (bk (al Try.f122) 0) (Fl.inj s) (cO Fl akl (Q:Sum Fl.T aJ->Prop))=(Fm s).wpR Q:=by kernel_rfl
def MY (g0_0:df->mh) (s:df):OT aJ:=(.ok ⟨(.exit 0,vO),g0_0 s⟩)
def V8:ar:=⟨[.own 2],[(0,.cells [.val false .int,.val false .u64,.val false .u64,.val false .u64,.val false .u64,.val false .u64,.val false .u64,.val false .u64,.val false .u64,.own 1,.val false .u64]),(1,.row .u8),(2,.row .u8)],false⟩
def aav:SV->Option ar:=λ_=>some V8
def akn (ok0:df->Bool) (g0_0:df->mh) (c0_0:Int) (c0_1:UInt64) (c0_2:UInt64) (c0_3:UInt64) (c0_4:UInt64) (c0_5:UInt64) (c0_6:UInt64) (c0_7:UInt64) (c0_8:UInt64) (c0_10:UInt64) (c1:List (UInt8)):OT pK.Y:=
 let z0:Nat:=List.length c1
 let z1:List UInt8:=List.take 128 c1++List.drop z0 (List.replicate 128 (0:UInt8))
 let z2:List UInt8:=List.replicate (Int.toNat c0_0) (0:UInt8)
 let z3:List UInt64:=yW [c0_1,c0_2,c0_3,c0_4,c0_5,c0_6,c0_7,c0_8] (tab z1 128 (0:UInt8)) (c0_10+i2u (↑(min z0 128):Int)) true
 let z4:(PUnit×PUnit×Int×Int×PUnit)×(Int×UInt64×UInt64×UInt64×UInt64×UInt64×UInt64×UInt64×UInt64×PUnit×UInt64×PUnit)×List UInt8×List UInt64×List UInt8×PUnit:=(((),(),(↑(List.length z2):Int),(0:Int),()),(c0_0,c0_1,c0_2,c0_3,c0_4,c0_5,c0_6,c0_7,c0_8,(),c0_10,()),c1,[List.getD z3 0 0,List.getD z3 1 0,List.getD z3 2 0,List.getD z3 3 0,List.getD z3 4 0,List.getD z3 5 0,List.getD z3 6 0,List.getD z3 7 0],z2,())
 let z5:=(g0_0 z4).snd
 let z6:=z5.fst
 let z7:=z6.snd
 let z8:=z7.snd
 let z9:=z8.snd
 let z10:=z9.snd
 let z11:=z10.snd
 let z12:=z11.snd
 let z13:=z12.snd
 let z14:=z13.snd
 let z15:=z5.snd
 (gd [decide (128<=List.length z1),decide ((0:Int)<=c0_0)&&decide (c0_0<=c0_0)&&decide (c0_0*(1:Int)<=(140737488355328:Int))&&decide (c0_0<=(140737488355328:Int)),ok0 z4] (.ok ⟨V8,(((),()),((z6.fst,(z7.fst,(z8.fst,(z9.fst,(z10.fst,(z11.fst,(z12.fst,(z13.fst,(z14.fst,((),(z14.snd.snd.fst,()))))))))))),(z15.fst,(z15.snd.fst,()))))⟩))
theorem avS (ok0:df->Bool) (g0_0:df->mh) (x:ad2) (Q:pK.Y->Prop):wpf te rP (bu 0 (dq Fl 0 ok0 (MY g0_0)) ay) 1000 Try.f122 (pK.inp.inj x).tm (pK.inp.inj x).hp (fnK pK aav Q) (λ_ _=>False)=(akn ok0 g0_0 (x.2.1.1) (x.2.1.2.1) (x.2.1.2.2.1) (x.2.1.2.2.2.1) (x.2.1.2.2.2.2.1) (x.2.1.2.2.2.2.2.1) (x.2.1.2.2.2.2.2.2.1) (x.2.1.2.2.2.2.2.2.2.1) (x.2.1.2.2.2.2.2.2.2.2.1) (x.2.1.2.2.2.2.2.2.2.2.2.2.1) (x.2.2.1)).wpR Q:=by kernel_rfl
theorem akm (ok0:df->Bool) (g0_0:df->mh) (h0:∀ s:df,ok0 s=true->∃ m e,aA (Fm) m s=some e/\(MY g0_0 s).run=some e) (pre:ad2->Bool) (F:ad2->OT pK.Y) (hF:∀ (x:ad2) oy,pre x=true->(F x).run=some oy->(akn ok0 g0_0 (x.2.1.1) (x.2.1.2.1) (x.2.1.2.2.1) (x.2.1.2.2.2.1) (x.2.1.2.2.2.2.1) (x.2.1.2.2.2.2.2.1) (x.2.1.2.2.2.2.2.2.1) (x.2.1.2.2.2.2.2.2.2.1) (x.2.1.2.2.2.2.2.2.2.2.1) (x.2.1.2.2.2.2.2.2.2.2.2.2.1) (x.2.2.1)).run=some oy):aa Try.prog 122 (pK.aD pre F):=
 aB ap nT Bw (f:=122) (fn:=Try.f122) (c:=al Try.f122) (by kernel_rfl) (by kernel_rfl) (by kernel_rfl) (S:=pK) (k:=2) (by kernel_rfl) (λR hR=>(aH (c:=(al Try.f122)) (by kernel_rfl) (id:=0) (by kernel_rfl) (bn ap nT Bw (sh:=Fl) hR (xs:=akl) (aG (by kernel_rfl) (by kernel_rfl) hR) aV af (n:=1000) (T:=Fm) (λs Q=>atT s Q) (ok:=ok0) (f:=MY g0_0) h0) af)) (n:=1000) (sel:=aav) (λv o h=>by cases h;rfl) (pre:=pre) (F:=F) (T:=λx=>akn ok0 g0_0 (x.2.1.1) (x.2.1.2.1) (x.2.1.2.2.1) (x.2.1.2.2.2.1) (x.2.1.2.2.2.2.1) (x.2.1.2.2.2.2.2.1) (x.2.1.2.2.2.2.2.2.1) (x.2.1.2.2.2.2.2.2.2.1) (x.2.1.2.2.2.2.2.2.2.2.1) (x.2.1.2.2.2.2.2.2.2.2.2.2.1) (x.2.2.1)) (λx Q=>avS ok0 g0_0 x Q) hF
def YF (h:List UInt64) (n:Nat):List UInt8:=upto (λk o=>o.set k (UInt64.toUInt8 (aT (h.getD (k/8) 0) (8*((k%8:Nat):Int))))) (List.replicate n 0) n
def MX (s:df):Bool:=decide (s.1.2.2.2.1=0/\s.2.2.2.1.length=8/\s.1.2.2.1<=64/\0<=s.1.2.2.1/\s.2.2.2.2.1=List.replicate s.1.2.2.1.toNat 0)
def V9 (s:df):mh:=(((),()),(s.2.1,s.2.2.1,YF s.2.2.2.1 s.1.2.2.1.toNat,()))
theorem atV:∀ s:df,MX s=true->∃ m e,aA Fm m s=some e/\(MY V9 s).run=some e:=by
 rintro ⟨⟨⟨⟩,⟨⟩,n,i,⟨⟩⟩,⟨d,w,h,o,⟨⟩⟩⟩ hh
 have h':=of_decide_eq_true hh
 dsimp only at h'
 obtain ⟨rfl,hl,hn,hn0,rfl⟩:=h'
 obtain ⟨k,rfl⟩:∃ k:Nat,n=(k:Int):=⟨n.toNat,by omega⟩
 have:=(bw (T:=Fm) (λi o=>((((),(),(k:Int),(i:Int),()),(d,w,h,o,())):df)) (λk o=>o.set k (UInt64.toUInt8 (aT (h.getD (k/8) 0) (8*((k%8:Nat):Int)))))
  (λo=>(⟨(.exit 0,vO),(((),()),(d,w,o,()))⟩:aJ)) k (List.replicate k 0) (λ_ o=>o.length=k) (by simp) (λi o hi ho=>⟨?_,by rw [List.length_set];exact ho⟩) (λo ho=> ?_)).1
 ·obtain ⟨m,hm⟩:=this
  exact ⟨m,_,hm,rfl⟩
 ·have t1:Int.tdiv (i:Int) 8=((i/8:Nat):Int):=by rw [Int.tdiv_eq_ediv_of_nonneg (by omega)];omega
  have t2:Int.tmod (i:Int) 8=((i%8:Nat):Int):=by rw [Int.tmod_eq_emod_of_nonneg (by omega)];omega
  refine (OT.au (decide_eq_true (by dsimp only;omega))).trans ((ah ?_).trans ?_)
  ·simp only [t1,t2,hl,ho,Int.toNat_natCast,List.all_cons,List.all_nil,Bool.and_true,Bool.and_eq_true]
   exact ⟨⟨trivial,aS (by omega)⟩,bc (by omega),decide_eq_true (by omega),aS (by omega),decide_eq_true (by omega),bc (by omega),decide_eq_true (by omega),aS (by omega)⟩
  ·simp only [OT.eC,t1,t2,Int.toNat_natCast,Nat.add_zero]
   rfl
 ·exact OT.aw (decide_eq_false (by dsimp only;omega))
def u5 (w:List UInt8):List UInt8:=w.take 128++(List.replicate 128 (0:UInt8)).drop w.length
theorem u4 {w:List UInt8} (h:w.length<=128):(u5 w).length=128:=by
 simp only [u5,List.length_append,List.length_take,List.length_drop,List.length_replicate]
 omega
def auS (n:Int) (s:List UInt64×UInt64×List UInt8):List UInt8:=YF (yW s.1 (u5 s.2.2) (s.2.1+i2u (s.2.2.length:Int)) true) n.toNat
theorem V7 {n:Int} {d:tS} {w:List UInt8} {h:List UInt64} (hh:h.length=8) (hn0:0<=n) (hn:n<=64):MX (((),(),n,0,()),(d,w,h,List.replicate n.toNat 0,()))=true:=decide_eq_true ⟨rfl,hh,hn,hn0,rfl⟩
def MW (x:ad2):Bool:=decide (0<=x.2.1.1/\x.2.1.1<=64/\x.2.2.1.length<=128)
def ap3 (x:ad2):OT pK.Y:=.ok ⟨V8,(((),()),(x.2.1,(x.2.2.1,(auS x.2.1.1 (DM x.2.1 x.2.2.1),()))))⟩
theorem atU:aa Try.prog 122 (pK.aD MW ap3):=akm MX V9 atV _ _ λx oy hp ho=>by
 rw [<-ho]
 clear ho
 obtain ⟨⟨⟨⟩,⟨⟩⟩,⟨⟨n,h0,h1,h2,h3,h4,h5,h6,h7,⟨⟩,c,⟨⟩⟩,w,⟨⟩⟩⟩:=x
 have hp':=of_decide_eq_true hp
 dsimp only at hp'
 obtain ⟨hn0,hn,hw⟩:=hp'
 have t1:w.take 128++List.drop w.length (List.replicate 128 (0:UInt8))=u5 w:=rfl
 have t2:tab (u5 w) 128 0=u5 w:=Ah (u4 hw)
 have t3:min w.length 128=w.length:=by omega
 have hc:∀ c,(yW [h0,h1,h2,h3,h4,h5,h6,h7] (u5 w) c true).length=8:=λc=>AK rfl
 have t4:∀ c,tab (yW [h0,h1,h2,h3,h4,h5,h6,h7] (u5 w) c true) 8 0=yW [h0,h1,h2,h3,h4,h5,h6,h7] (u5 w) c true:=λc=>Ah (hc c)
 have t5:((List.replicate n.toNat (0:UInt8)).length:Int)=n:=by simp;omega
 refine (ah ?_).trans ?_
 ·simp only [t1,t2,t3,t4,t5,u4 hw,List.all_cons,List.all_nil,Bool.and_true,Bool.and_eq_true]
  exact ⟨rfl,⟨⟨⟨decide_eq_true hn0,decide_eq_true (Int.le_refl _)⟩,decide_eq_true (by omega)⟩,decide_eq_true (by omega)⟩,V7 (hc _) hn0 hn⟩
 ·simp only [t1,t2,t3,t4,t5,V9]
  rfl
def Fk:bI:=(pK.aD MW ap3)
theorem ad1:aa Try.prog 122 Fk:=atU
theorem ad0:aC Fk:=ax
def ak9:Env:=av 122 Fk rP
theorem ak8:aI Try.prog ak9:=ag ad1 nT
theorem W3:aq ak9:=ab ad0 wV
end Go.Proofs.Ythgjhpbapddpnaa

namespace Go.Proofs.Ythgjhpbapddpnaa
open Sx Go
def Sx.ac.nat (e:ac):Nat:=e.w0.toNat+18446744073709551616*(e.w1.toNat+18446744073709551616*(e.w2.toNat+18446744073709551616*e.w3.toNat))
def ofN (n:Nat):ac:=⟨UInt64.ofNat n,UInt64.ofNat (n/18446744073709551616),UInt64.ofNat (n/18446744073709551616/18446744073709551616),UInt64.ofNat (n/18446744073709551616/18446744073709551616/18446744073709551616)⟩
def rS (x y c:UInt64):UInt64:=UInt64.ofNat ((x.toNat+y.toNat+c.toNat)%18446744073709551616)
def tR (x y c:UInt64):UInt64:=UInt64.ofNat ((x.toNat+y.toNat+c.toNat)/18446744073709551616)
def mN (x y c:UInt64):UInt64:=UInt64.ofNat ((x.toNat+18446744073709551616-y.toNat-c.toNat)%18446744073709551616)
def NI (x y c:UInt64):UInt64:=UInt64.ofNat (if x.toNat<y.toNat+c.toNat then 1 else 0)
def alc (x y:UInt64):UInt64:=UInt64.ofNat (x.toNat*y.toNat/18446744073709551616)
theorem eI (x:UInt64) (k:Nat) (hk:k<64):(aT x (k:Int)).toNat=x.toNat/2^k:=by
 unfold aT
 rw [if_pos (by omega),UInt64.toNat_shiftRight,UInt64.toNat_ofNat',Int.toNat_natCast,Nat.shiftRight_eq_div_pow]
 congr 2
 omega
theorem jG (x:UInt64) (k:Nat) (hk:k<64):(bL x (k:Int)).toNat=x.toNat*2^k%2^64:=by
 unfold bL
 rw [if_pos (by omega),UInt64.toNat_shiftLeft,UInt64.toNat_ofNat',Int.toNat_natCast,Nat.shiftLeft_eq]
 congr 3
 omega
theorem ig (x:UInt64):(x&&&4294967295).toNat=x.toNat%4294967296:=by
 rw [UInt64.toNat_and]
 exact Nat.and_two_pow_sub_one_eq_mod x.toNat 32
theorem avm (a b:UInt64):aT a 32*aT b 32+aT (aT a 32*(b&&&4294967295)+aT ((a&&&4294967295)*(b&&&4294967295)) 32) 32+
 aT (((aT a 32*(b&&&4294967295)+aT ((a&&&4294967295)*(b&&&4294967295)) 32)&&&4294967295)+(a&&&4294967295)*aT b 32) 32=alc a b:=by
 have ha:=a.toNat_lt
 have hb:=b.toNat_lt
 obtain ⟨h1,h2,h3,h4⟩:=Lib.mul64_hi a.toNat b.toNat ha hb
 have s32:∀ x:UInt64,(aT x 32).toNat=x.toNat/4294967296:=λx=>eI x 32 (by omega)
 have hx:=Lib.half_mul_le (a:=a.toNat/4294967296) (b:=b.toNat/4294967296) (by omega) (by omega)
 have hy:=Lib.half_mul_le (a:=a.toNat/4294967296) (b:=b.toNat%4294967296) (by omega) (by omega)
 have hz:=Lib.half_mul_le (a:=a.toNat%4294967296) (b:=b.toNat/4294967296) (by omega) (by omega)
 have e0:((a&&&4294967295)*(b&&&4294967295)).toNat=a.toNat%4294967296*(b.toNat%4294967296):=by
  rw [UInt64.toNat_mul,ig,ig,Nat.mod_eq_of_lt h1]
 have e1:(aT a 32*(b&&&4294967295)+aT ((a&&&4294967295)*(b&&&4294967295)) 32).toNat=a.toNat/4294967296*(b.toNat%4294967296)+a.toNat%4294967296*(b.toNat%4294967296)/4294967296:=by
  rw [UInt64.toNat_add,UInt64.toNat_mul,s32,s32,ig,e0,Nat.mod_eq_of_lt (a:=a.toNat/4294967296*(b.toNat%4294967296)) (by omega),Nat.mod_eq_of_lt h2]
 have e2:(((aT a 32*(b&&&4294967295)+aT ((a&&&4294967295)*(b&&&4294967295)) 32)&&&4294967295)+(a&&&4294967295)*aT b 32).toNat=
  (a.toNat/4294967296*(b.toNat%4294967296)+a.toNat%4294967296*(b.toNat%4294967296)/4294967296)%4294967296+a.toNat%4294967296*(b.toNat/4294967296):=by
  rw [UInt64.toNat_add,UInt64.toNat_mul,ig,ig,s32,e1,Nat.mod_eq_of_lt (a:=a.toNat%4294967296*(b.toNat/4294967296)) (by omega),Nat.mod_eq_of_lt h3]
 have hq:a.toNat*b.toNat/18446744073709551616<18446744073709551616:=by
  rw [Nat.div_lt_iff_lt_mul (by omega)]
  exact Nat.mul_lt_mul'' ha hb
 rw [<-UInt64.toNat_inj,UInt64.toNat_add,UInt64.toNat_add,UInt64.toNat_mul,s32,s32,s32,s32,e1,e2]
 have e3:(alc a b).toNat=a.toNat*b.toNat/18446744073709551616:=by
  unfold alc
  rw [UInt64.toNat_ofNat',Nat.mod_eq_of_lt hq]
 rw [e3,<-h4]
 rw [<-h4] at hq
 omega
def auj (h l y:UInt64):UInt64:=UInt64.ofNat ((h.toNat*18446744073709551616+l.toNat)/y.toNat)
def QS (h l y:UInt64):UInt64:=UInt64.ofNat ((h.toNat*18446744073709551616+l.toNat)%y.toNat)
theorem aou {m A B N:Nat} (hm:0<m) (e:N=A+m*B):N/m=B+A/m/\N%m=A%m:=by
 subst e
 exact ⟨by rw [Nat.add_mul_div_left _ _ hm,Nat.add_comm],Nat.add_mul_mod_self_left ..⟩
theorem MG {m N u t q r K L:Nat} (hm:0<m) (hL:0<L) (hu:N=u*K+t) (hq:u=q*(m*L)+r):
 N/m=q*(L*K)+((r*K+t)*L)/(m*L)/\N%m=((r*K+t)*L)%(m*L)/L:=by
 have e:N=(r*K+t)+m*(q*(L*K)):=by
  have h1:q*(m*L)*K=m*(q*(L*K)):=by
   rw [Nat.mul_assoc q,Nat.mul_assoc m,Nat.mul_left_comm m q]
  rw [hu,hq,Nat.add_mul,h1]
  omega
 obtain ⟨h1,h2⟩:=aou hm e
 rw [h1,h2,Nat.mul_div_mul_right _ _ hL,Nat.mul_mod_mul_right,Nat.mul_div_cancel _ hL]
 exact ⟨rfl,rfl⟩
theorem ks (x y c:UInt64):x.toNat+y.toNat+c.toNat=(rS x y c).toNat+18446744073709551616*(tR x y c).toNat:=by
 have hx:=x.toNat_lt
 have hy:=y.toNat_lt
 have hc:=c.toNat_lt
 unfold rS tR
 rw [UInt64.toNat_ofNat',UInt64.toNat_ofNat',Nat.mod_eq_of_lt (b:=2^64) (by omega),Nat.mod_eq_of_lt (b:=2^64) (by omega)]
 omega
theorem zk {x y c:UInt64} (hc:c.toNat<=1):(tR x y c).toNat<=1:=by
 have hx:=x.toNat_lt
 have hy:=y.toNat_lt
 unfold tR
 rw [UInt64.toNat_ofNat',Nat.mod_eq_of_lt (by omega)]
 omega
theorem uA (x y c:UInt64):(NI x y c).toNat=if x.toNat<y.toNat+c.toNat then 1 else 0:=by
 unfold NI
 rw [UInt64.toNat_ofNat']
 split<;>rfl
theorem xL {x y c:UInt64}:(NI x y c).toNat<=1:=by
 rw [uA]
 split<;>omega
theorem uB {x y c:UInt64} (hc:c.toNat<=1):x.toNat+18446744073709551616*(NI x y c).toNat=(mN x y c).toNat+y.toNat+c.toNat:=by
 have hx:=x.toNat_lt
 have hy:=y.toNat_lt
 rw [uA]
 unfold mN
 rw [UInt64.toNat_ofNat',Nat.mod_eq_of_lt (b:=2^64) (by omega)]
 split<;>omega
theorem gO (e:ac):e.nat<115792089237316195423570985008687907853269984665640564039457584007913129639936:=by
 have h0:=e.w0.toNat_lt
 have h1:=e.w1.toNat_lt
 have h2:=e.w2.toNat_lt
 have h3:=e.w3.toNat_lt
 unfold Sx.ac.nat
 omega
theorem xk {a b X Y:Nat} (ha:a<18446744073709551616) (hb:b<18446744073709551616) (h:a+18446744073709551616*X=b+18446744073709551616*Y):a=b/\X=Y:=by
 omega
theorem jZ {e f:ac} (h:e.nat=f.nat):e=f:=by
 unfold Sx.ac.nat at h
 obtain ⟨h0,h⟩:=xk e.w0.toNat_lt f.w0.toNat_lt h
 obtain ⟨h1,h⟩:=xk e.w1.toNat_lt f.w1.toNat_lt h
 obtain ⟨h2,h3⟩:=xk e.w2.toNat_lt f.w2.toNat_lt h
 obtain ⟨a,b,c,d⟩:=e
 obtain ⟨a',b',c',d'⟩:=f
 simp only at h0 h1 h2 h3
 rw [UInt64.toNat_inj.1 h0,UInt64.toNat_inj.1 h1,UInt64.toNat_inj.1 h2,UInt64.toNat_inj.1 h3]
theorem div_eq {n a b:Nat} (ha:a<18446744073709551616) (h:n=a+18446744073709551616*b):n/18446744073709551616=b/\n%18446744073709551616=a:=by
 omega
theorem ah8 {n:Nat} {a b c d:UInt64} {k:Nat} (h:n=a.toNat+18446744073709551616*(b.toNat+18446744073709551616*(c.toNat+18446744073709551616*(d.toNat+18446744073709551616*k)))):ofN n=⟨a,b,c,d⟩:=by
 obtain ⟨h1,h0⟩:=div_eq a.toNat_lt h
 obtain ⟨h2,h3⟩:=div_eq b.toNat_lt h1
 obtain ⟨h4,h5⟩:=div_eq c.toNat_lt h2
 have h6:n/18446744073709551616/18446744073709551616/18446744073709551616%18446744073709551616=d.toNat:=by
  rw [h4]
  have:=d.toNat_lt
  omega
 unfold ofN
 have e:∀ (m:Nat) (x:UInt64),m%18446744073709551616=x.toNat->UInt64.ofNat m=x:=λm x hm=>by
  rw [<-UInt64.toNat_inj,UInt64.toNat_ofNat']
  exact hm
 rw [e _ a h0,e _ b h3,e _ c h5,e _ d h6]
theorem LK (n:Nat):(ofN n).nat=n%115792089237316195423570985008687907853269984665640564039457584007913129639936:=by
 unfold ofN ac.nat
 simp only [UInt64.toNat_ofNat']
 rw [show (2:Nat)^64=18446744073709551616 from rfl]
 omega
theorem iJ {n:Nat} (h:n<115792089237316195423570985008687907853269984665640564039457584007913129639936):(ofN n).nat=n:=by
 rw [LK]
 exact Nat.mod_eq_of_lt h
theorem m9 (e:ac):ofN e.nat=e:=jZ (iJ (gO e))
def mD (a b:ac):ac×Bool:=(ofN (a.nat+b.nat),Nat.ble 115792089237316195423570985008687907853269984665640564039457584007913129639936 (a.nat+b.nat))
def fo (a b:ac):ac×Bool:=(ofN (a.nat+115792089237316195423570985008687907853269984665640564039457584007913129639936-b.nat),Nat.blt a.nat b.nat)
theorem Ng {x y c s k X Y R:Nat} (h1:x+y+c=s+18446744073709551616*k) (h2:X+Y+k=R):(x+18446744073709551616*X)+(y+18446744073709551616*Y)+c=s+18446744073709551616*R:=by
 omega
theorem K8 {x y c s k X Y R Q:Nat} (h1:x+18446744073709551616*k=s+y+c) (h2:X+18446744073709551616*Q=R+Y+k):(x+18446744073709551616*X)+18446744073709551616*(18446744073709551616*Q)=s+18446744073709551616*R+(y+18446744073709551616*Y)+c:=by
 omega
theorem HZ (a b:ac):let k0:=tR a.w0 b.w0 0;let k1:=tR a.w1 b.w1 k0;let k2:=tR a.w2 b.w2 k1;let k3:=tR a.w3 b.w3 k2
 (k0.toNat<=1/\k1.toNat<=1/\k2.toNat<=1)/\mD a b=(⟨rS a.w0 b.w0 0,rS a.w1 b.w1 k0,rS a.w2 b.w2 k1,rS a.w3 b.w3 k2⟩,!(k3==0)):=by
 intro k0 k1 k2 k3
 have l0:k0.toNat<=1:=zk (by decide)
 have l1:k1.toNat<=1:=zk l0
 have l2:k2.toNat<=1:=zk l1
 have l3:k3.toNat<=1:=zk l2
 refine ⟨⟨l0,l1,l2⟩,?_⟩
 have h:=Ng (ks a.w0 b.w0 0) (Ng (ks a.w1 b.w1 k0) (Ng (ks a.w2 b.w2 k1) (ks a.w3 b.w3 k2)))
 rw [show (0:UInt64).toNat=0 from rfl,Nat.add_zero] at h
 unfold mD
 have hn:a.nat+b.nat=(rS a.w0 b.w0 0).toNat+18446744073709551616*((rS a.w1 b.w1 k0).toNat+18446744073709551616*((rS a.w2 b.w2 k1).toNat+18446744073709551616*((rS a.w3 b.w3 k2).toNat+18446744073709551616*k3.toNat))):=h
 rw [ah8 hn]
 congr 1
 have hs:=gO ⟨rS a.w0 b.w0 0,rS a.w1 b.w1 k0,rS a.w2 b.w2 k1,rS a.w3 b.w3 k2⟩
 unfold Sx.ac.nat at hs
 simp only at hs
 have hk:k3.toNat=0\/k3.toNat=1:=by omega
 rcases hk with hk|hk
 ·have e:k3=0:=UInt64.toNat_inj.1 hk
  rw [hk] at hn
  rw [e]
  cases hb:Nat.ble 115792089237316195423570985008687907853269984665640564039457584007913129639936 (a.nat+b.nat)
  ·rfl
  ·have:=Nat.le_of_ble_eq_true hb
   omega
 ·have e:(k3==0)=false:=by
   have:¬k3=0:=λe=>by rw [e] at hk;cases hk
   simpa using this
  rw [hk] at hn
  rw [e]
  exact Nat.ble_eq_true_of_le (by omega)
theorem H7 (a b:ac):let k0:=NI a.w0 b.w0 0;let k1:=NI a.w1 b.w1 k0;let k2:=NI a.w2 b.w2 k1;let k3:=NI a.w3 b.w3 k2
 (k0.toNat<=1/\k1.toNat<=1/\k2.toNat<=1)/\fo a b=(⟨mN a.w0 b.w0 0,mN a.w1 b.w1 k0,mN a.w2 b.w2 k1,mN a.w3 b.w3 k2⟩,!(k3==0)):=by
 intro k0 k1 k2 k3
 have l0:k0.toNat<=1:=xL
 have l1:k1.toNat<=1:=xL
 have l2:k2.toNat<=1:=xL
 have l3:k3.toNat<=1:=xL
 refine ⟨⟨l0,l1,l2⟩,?_⟩
 have h:=K8 (uB (x:=a.w0) (y:=b.w0) (c:=0) (by decide)) (K8 (uB (x:=a.w1) (y:=b.w1) l0) (K8 (uB (x:=a.w2) (y:=b.w2) l1) (uB (x:=a.w3) (y:=b.w3) l2)))
 rw [show (0:UInt64).toNat=0 from rfl,Nat.add_zero] at h
 unfold fo
 have hs:=gO ⟨mN a.w0 b.w0 0,mN a.w1 b.w1 k0,mN a.w2 b.w2 k1,mN a.w3 b.w3 k2⟩
 have h':a.nat+18446744073709551616*(18446744073709551616*(18446744073709551616*(18446744073709551616*k3.toNat)))=ac.nat ⟨mN a.w0 b.w0 0,mN a.w1 b.w1 k0,mN a.w2 b.w2 k1,mN a.w3 b.w3 k2⟩+b.nat:=h
 have ha:=gO a
 have hb:=gO b
 have hS:=gO ⟨mN a.w0 b.w0 0,mN a.w1 b.w1 k0,mN a.w2 b.w2 k1,mN a.w3 b.w3 k2⟩
 have e1:ofN (a.nat+115792089237316195423570985008687907853269984665640564039457584007913129639936-b.nat)=⟨mN a.w0 b.w0 0,mN a.w1 b.w1 k0,mN a.w2 b.w2 k1,mN a.w3 b.w3 k2⟩:=by
  apply jZ
  rw [LK]
  generalize ac.nat ⟨mN a.w0 b.w0 0,mN a.w1 b.w1 k0,mN a.w2 b.w2 k1,mN a.w3 b.w3 k2⟩=S at*
  omega
 rw [e1]
 congr 1
 generalize ac.nat ⟨mN a.w0 b.w0 0,mN a.w1 b.w1 k0,mN a.w2 b.w2 k1,mN a.w3 b.w3 k2⟩=S at*
 have hk:k3.toNat=0\/k3.toNat=1:=by omega
 rcases hk with hk|hk
 ·have e:k3=0:=UInt64.toNat_inj.1 hk
  rw [hk] at h'
  rw [e]
  cases hq:Nat.blt a.nat b.nat
  ·rfl
  ·have:=dA hq
   omega
 ·have e:(k3==0)=false:=by
   have:¬k3=0:=λe=>by rw [e] at hk;cases hk
   simpa using this
  rw [hk] at h'
  rw [e]
  exact Nat.ble_eq_true_of_le (show a.nat+1<=b.nat by omega)
def lst (e:ac):List UInt64:= [e.w0,e.w1,e.w2,e.w3]
def elemOf (l:List UInt64):ac:=⟨l.getD 0 0,l.getD 1 0,l.getD 2 0,l.getD 3 0⟩
theorem aM {l:List UInt64} (h:l.length=4):lst (elemOf l)=l:=by
 match l,h with
 | [a,b,c,d],_=>rfl
theorem adK (e:ac):elemOf (lst e)=e:=rfl
theorem cE (e:ac):(lst e).length=4:=rfl
theorem nA {h l y:UInt64} (hy:0<y.toNat):(QS h l y).toNat=(h.toNat*18446744073709551616+l.toNat)%y.toNat:=by
 unfold QS
 rw [UInt64.toNat_ofNat']
 exact Nat.mod_eq_of_lt (Nat.lt_trans (Nat.mod_lt _ hy) y.toNat_lt)
theorem LR (r x m:Nat):(r%m*18446744073709551616+x)%m=(r*18446744073709551616+x)%m:=by
 rw [Nat.add_mod,Nat.mul_mod,Nat.mod_mod,<-Nat.mul_mod,<-Nat.add_mod]
theorem Xe (a b:ac):(fo a b).2=Nat.blt a.nat b.nat:=rfl
theorem kC {a b:ac} (h:b.nat<=a.nat):(fo a b).1.nat=a.nat-b.nat:=by
 have ha:=gO a
 show (ofN _).nat=_
 rw [LK]
 omega
theorem Wk {w N r:Nat} (hr:r<64):(w+18446744073709551616*N)/2^r%2=w/2^r%2:=by
 have e:18446744073709551616*N=2^r*(2*(2^(63-r)*N)):=by
  rw [<-Nat.mul_assoc,<-Nat.mul_assoc,Nat.mul_comm (2^r) 2,Nat.mul_assoc 2,<-Nat.pow_add,show r+(63-r)=63 by omega]
 rw [e,Nat.add_mul_div_left _ _ (Nat.two_pow_pos r),Nat.add_mul_mod_self_left]
theorem xj {w N:Nat} (hw:w<18446744073709551616) (r:Nat):(w+18446744073709551616*N)/2^(64+r)=N/2^r:=by
 rw [Nat.pow_add,<-Nat.div_div_eq_div_mul,show 2^64=18446744073709551616 from rfl,show (w+18446744073709551616*N)/18446744073709551616=N by omega]
theorem aaG {a:ac} {q r:Nat} (hq:q<4) (hr:r<64):((lst a).getD q 0).toNat/2^r%2=a.nat/2^(64*q+r)%2:=by
 have h0:=a.w0.toNat_lt
 have h1:=a.w1.toNat_lt
 have h2:=a.w2.toNat_lt
 unfold Sx.ac.nat
 have hq':q=0\/q=1\/q=2\/q=3:=by omega
 rcases hq' with rfl|rfl|rfl|rfl
 ·rw [Nat.mul_zero,Nat.zero_add,Wk hr];rfl
 ·rw [show 64*1+r=64+r by omega,xj h0,Wk hr];rfl
 ·rw [show 64*2+r=64+(64+r) by omega,xj h0,xj h1,Wk hr];rfl
 ·rw [show 64*3+r=64+(64+(64+r)) by omega,xj h0,xj h1,xj h2];rfl
def aee (n i:Nat):Bool:=Nat.beq (n/2^i%2) 1
theorem Wj (x:UInt64):(x&&&1==1)=Nat.beq (x.toNat%2) 1:=by
 have e:(x&&&1).toNat=x.toNat%2:=by
  rw [UInt64.toNat_and]
  exact Nat.and_two_pow_sub_one_eq_mod x.toNat 1
 rw [<-e]
 by_cases h:x&&&1=1
 ·rw [h];rfl
 ·have h':¬(x&&&1).toNat=1:=λh'=>h (UInt64.toNat_inj.1 h')
  have h2:Nat.beq (x&&&1).toNat 1=false:=by
   cases hb:Nat.beq (x&&&1).toNat 1
   ·rfl
   ·exact absurd (Nat.eq_of_beq_eq_true hb) h'
  rw [h2]
  simpa using h
theorem Zk (x:ac):(x.w0&&&1==1)=(x.w0%2==1):=by
 have h:=Wj x.w0
 rw [h]
 have h2:(x.w0%2).toNat=x.w0.toNat%2:=by rw [UInt64.toNat_mod];rfl
 rw [<-h2]
 by_cases h:x.w0%2=1
 ·rw [h];rfl
 ·have hn:¬(x.w0%2).toNat=1:=λe=>h (UInt64.toNat_inj.1 e)
  have:Nat.beq (x.w0%2).toNat 1=false:=by
   cases hb:Nat.beq (x.w0%2).toNat 1
   ·rfl
   ·exact absurd (Nat.eq_of_beq_eq_true hb) hn
  rw [this]
  symm
  simpa using h
end Go.Proofs.Ythgjhpbapddpnaa

namespace Go.Proofs.Ythgjhpbapddpnaa
open Sx Go
set_option maxRecDepth 100000
def Nd:ao:=⟨[.val false .u64,.val false .u64,.val false .u64],[],true,0,false⟩
abbrev akS:Type:=((UInt64)×(UInt64)×(UInt64)×Unit)×(Unit)
def akR:ar:=⟨[.val false .u64,.val false .u64],[],false⟩
def zi (x:akS):Bool:=decide (x.1.2.2.1.toNat<=1)
def aaP (x:akS):OT Nd.Y:=.ok ⟨akR,((rS x.1.1 x.1.2.1 x.1.2.2.1,tR x.1.1 x.1.2.1 x.1.2.2.1,()),())⟩
theorem aeg (a b c:UInt64) (hc:c.toNat<=1) (w:World):(callFunc 93 #[fR a,fR b,fR c]).run Try.prog w=.ok (.value (.tuple #[fR (rS a b c),fR (tR a b c)])) w:=by
 unfold fR
 rw [run_callFunc_extern Try.func93 (by kernel_rfl) (by kernel_rfl) (by kernel_rfl) (e:=add64Entry) (by kernel_rfl),run_add64 (a.toNat:Int) (b.toNat:Int) (c.toNat:Int) (by omega) (by omega) (by omega) (by omega)]
 have ha:=a.toNat_lt
 have hb:=b.toNat_lt
 have e1:(((rS a b c).toNat:Nat):Int)=((a.toNat:Int)+b.toNat+c.toNat)%18446744073709551616:=by
  unfold rS
  rw [UInt64.toNat_ofNat',Nat.mod_eq_of_lt (by omega)]
  omega
 have e2:(((tR a b c).toNat:Nat):Int)=((a.toNat:Int)+b.toNat+c.toNat)/18446744073709551616:=by
  unfold tR
  rw [UInt64.toNat_ofNat',Nat.mod_eq_of_lt (by omega)]
  omega
 rw [e1,e2]
 rfl
theorem akQ:aa Try.prog 93 (Nd.aD zi aaP):=by
 refine apT (k:=0) (by kernel_rfl) λx oy vs N w hp ho hr=> ?_
 obtain ⟨⟨a,b,c,⟨⟩⟩,⟨⟩⟩:=x
 cases ho
 have hc:c.toNat<=1:=of_decide_eq_true hp
 have hr':SV.bA N [.u64 a,.u64 b,.u64 c] vs:=hr
 simp only [SV.bA,SV.rel] at hr'
 obtain ⟨_,_,rfl,rfl,_,_,rfl,rfl,_,_,rfl,rfl,rfl⟩:=hr'
 refine ⟨.tup [.u64 (rS a b c),.u64 (tR a b c)],_,aeg a b c hc w,?_,⟨rfl,by kernel_rfl⟩⟩
 simp only [SV.rel]
 exact ⟨_,rfl,by simp only [SV.bA,SV.rel];exact ⟨_,_,rfl,rfl,_,_,rfl,rfl,rfl⟩⟩
def tr:bI:=(Nd.aD zi aaP)
theorem RL:aa Try.prog 93 tr:=akQ
theorem RK:aC tr:=ax
def NH:Env:=av 93 tr ak9
theorem W5:aI Try.prog NH:=ag RL ak8
theorem NG:aq NH:=ab RK W3
def MZ:ao:=⟨[.val false .u64,.val false .u64,.val false .u64],[],true,0,false⟩
abbrev akq:Type:=((UInt64)×(UInt64)×(UInt64)×Unit)×(Unit)
def akp:ar:=⟨[.val false .u64,.val false .u64],[],false⟩
def y6 (x:akq):Bool:=decide (x.1.2.2.1.toNat<=1)
def aaw (x:akq):OT MZ.Y:=.ok ⟨akp,((mN x.1.1 x.1.2.1 x.1.2.2.1,NI x.1.1 x.1.2.1 x.1.2.2.1,()),())⟩
def apx:Array Value->Sem Value:=λargs=>do
 let (x,y,b) <-Extern.MathBitsCarry.three "Sub64" args
 pure (Extern.MathBitsCarry.pair ((x+Extern.MathBitsCarry.m64-y-b)%Extern.MathBitsCarry.m64) (if x<y+b then 1 else 0))
theorem abL {P:Program} (x y b:Nat) (hb:b<=1) (w:World):
 (apx #[.int .u64 x,.int .u64 y,.int .u64 b]).run P w=
  .ok (.tuple #[.int .u64 (((x+18446744073709551616-y-b)%18446744073709551616:Nat):Int),.int .u64 ((if x<y+b then 1 else 0:Nat):Int)]) w:=by
 have:b=0\/b=1:=by omega
 rcases this with rfl|rfl<;>rfl
theorem ad3 (a b c:UInt64) (hc:c.toNat<=1) (w:World):(callFunc 92 #[fR a,fR b,fR c]).run Try.prog w=.ok (.value (.tuple #[fR (mN a b c),fR (NI a b c)])) w:=by
 unfold fR
 rw [run_callFunc_extern Try.func92 (by kernel_rfl) (by kernel_rfl) (by kernel_rfl) (e:=apx) (by kernel_rfl),abL a.toNat b.toNat c.toNat (by omega)]
 have ha:=a.toNat_lt
 have hb:=b.toNat_lt
 have e1:(mN a b c).toNat=(a.toNat+18446744073709551616-b.toNat-c.toNat)%18446744073709551616:=by
  unfold mN
  rw [UInt64.toNat_ofNat',Nat.mod_eq_of_lt (by omega)]
 have e2:(NI a b c).toNat=if a.toNat<b.toNat+c.toNat then 1 else 0:=by
  unfold NI
  rw [UInt64.toNat_ofNat',Nat.mod_eq_of_lt (by split<;>omega)]
 rw [e1,e2]
 rfl
theorem ako:aa Try.prog 92 (MZ.aD y6 aaw):=by
 refine apT (k:=0) (by kernel_rfl) λx oy vs N w hp ho hr=> ?_
 obtain ⟨⟨a,b,c,⟨⟩⟩,⟨⟩⟩:=x
 cases ho
 have hc:c.toNat<=1:=of_decide_eq_true hp
 have hr':SV.bA N [.u64 a,.u64 b,.u64 c] vs:=hr
 simp only [SV.bA,SV.rel] at hr'
 obtain ⟨_,_,rfl,rfl,_,_,rfl,rfl,_,_,rfl,rfl,rfl⟩:=hr'
 refine ⟨.tup [.u64 (mN a b c),.u64 (NI a b c)],_,ad3 a b c hc w,?_,⟨rfl,by kernel_rfl⟩⟩
 simp only [SV.rel]
 exact ⟨_,rfl,by simp only [SV.bA,SV.rel];exact ⟨_,_,rfl,rfl,_,_,rfl,rfl,rfl⟩⟩
def tg:bI:=(MZ.aD y6 aaw)
theorem Rf:aa Try.prog 92 tg:=ako
theorem Re:aC tg:=ax
def wX:Env:=av 92 tg NH
theorem tI:aI Try.prog wX:=ag Rf W5
theorem wW:aq wX:=ab Re NG
theorem Sv:aP Try.prog te wX:=aF follows ap tI wW
def gL:ao:=⟨[.val false .u64,.val false .u64],[],true,0,false⟩
abbrev zb:Type:=((UInt64)×(UInt64)×Unit)×(Unit)
def Fv:ar:=⟨[.val false .u64,.val false .u64],[],false⟩
def Ki:SV->Option ar:=λ_=>some Fv
def Ci (a0:UInt64) (a1:UInt64):OT gL.Y:=
 let z0:UInt64:=aT a0 (32:Int)
 let z1:UInt64:=aT a1 (32:Int)
 let z2:UInt64:=z0*(a1&&&(4294967295:UInt64))+aT ((a0&&&(4294967295:UInt64))*(a1&&&(4294967295:UInt64))) (32:Int)
 (.ok ⟨Fv,((z0*z1+aT z2 (32:Int)+aT ((z2&&&(4294967295:UInt64))+(a0&&&(4294967295:UInt64))*z1) (32:Int),(a0*a1,())),())⟩)
theorem aoJ (x:zb) (Q:gL.Y->Prop):wpf te wX ay 1000 Try.f101 (gL.inp.inj x).tm (gL.inp.inj x).hp (fnK gL Ki Q) (λ_ _=>False)=(Ci (x.1.1) (x.1.2.1)).wpR Q:=by kernel_rfl
theorem Wd (pre:zb->Bool) (F:zb->OT gL.Y) (hF:∀ (x:zb) oy,pre x=true->(F x).run=some oy->(Ci (x.1.1) (x.1.2.1)).run=some oy):aa Try.prog 101 (gL.aD pre F):=
 aB ap tI Sv (f:=101) (fn:=Try.f101) (c:=al Try.f101) (by kernel_rfl) (by kernel_rfl) (by kernel_rfl) (S:=gL) (k:=0) (by kernel_rfl) (λR hR=>af) (n:=1000) (sel:=Ki) (λv o h=>by cases h;rfl) (pre:=pre) (F:=F) (T:=λx=>Ci (x.1.1) (x.1.2.1)) (λx Q=>aoJ x Q) hF
def Kj (_:zb):Bool:=true
def M3 (x:zb):OT gL.Y:=.ok ⟨Fv,((alc x.1.1 x.1.2.1,(x.1.1*x.1.2.1,())),())⟩
theorem akw:aa Try.prog 101 (gL.aD Kj M3):=Wd _ _ λx oy _ ho=>by
 rw [<-ho]
 simp only [M3,Ci,avm]
def tk:bI:=(gL.aD Kj M3)
theorem Ro:aa Try.prog 101 tk:=akw
theorem Rn:aC tk:=ax
def w9:Env:=av 101 tk wX
theorem tL:aI Try.prog w9:=ag Ro tI
theorem w8:aq w9:=ab Rn wW
theorem SA:aP Try.prog te w9:=aF follows ap tL w8
def gM:ao:=⟨[.val false .u64],[],true,0,false⟩
abbrev zf:Type:=((UInt64)×Unit)×(Unit)
def ej:ar:=⟨[.val false .int],[],false⟩
def Kl:SV->Option ar:=λ_=>some ej
def vQ (a0:UInt64):OT gM.Y:=
 let z0:UInt64:=aT a0 (32:Int)
 let z1:UInt64:=aT z0 (16:Int)
 let z2:Int:=(↑(UInt8.toNat (UInt64.toUInt8 (aT z1 (8:Int)))):Int)
 let z3:List UInt8:=List.replicate 64 (8:UInt8)
 let z4:List UInt8:=List.append (List.append [(0:UInt8),(1:UInt8),(2:UInt8),(2:UInt8),(3:UInt8),(3:UInt8),(3:UInt8),(3:UInt8),(4:UInt8),(4:UInt8),(4:UInt8),(4:UInt8),(4:UInt8),(4:UInt8),(4:UInt8),(4:UInt8),(5:UInt8),(5:UInt8),(5:UInt8),(5:UInt8),(5:UInt8),(5:UInt8),(5:UInt8),(5:UInt8),(5:UInt8),(5:UInt8),(5:UInt8),(5:UInt8),(5:UInt8),(5:UInt8),(5:UInt8),(5:UInt8),(6:UInt8),(6:UInt8),(6:UInt8),(6:UInt8),(6:UInt8),(6:UInt8),(6:UInt8),(6:UInt8),(6:UInt8),(6:UInt8),(6:UInt8),(6:UInt8),(6:UInt8),(6:UInt8),(6:UInt8),(6:UInt8),(6:UInt8),(6:UInt8),(6:UInt8),(6:UInt8),(6:UInt8),(6:UInt8),(6:UInt8),(6:UInt8),(6:UInt8),(6:UInt8),(6:UInt8),(6:UInt8),(6:UInt8),(6:UInt8),(6:UInt8),(6:UInt8)] (List.replicate 64 (7:UInt8))) (List.append z3 z3)
 let z5:Int:=(56:Int)+(↑(UInt8.toNat (List.getD z4 (Int.toNat z2) (0:UInt8))):Int)
 let z6:Int:=(↑(UInt8.toNat (UInt64.toUInt8 z1)):Int)
 let z7:Int:=(48:Int)+(↑(UInt8.toNat (List.getD z4 (Int.toNat z6) (0:UInt8))):Int)
 let z8:Int:=(↑(UInt8.toNat (UInt64.toUInt8 (aT z0 (8:Int)))):Int)
 let z9:Int:=(40:Int)+(↑(UInt8.toNat (List.getD z4 (Int.toNat z8) (0:UInt8))):Int)
 let z10:Int:=(↑(UInt8.toNat (UInt64.toUInt8 z0)):Int)
 let z11:Int:=(32:Int)+(↑(UInt8.toNat (List.getD z4 (Int.toNat z10) (0:UInt8))):Int)
 let z12:UInt64:=aT a0 (16:Int)
 let z13:Int:=(↑(UInt8.toNat (UInt64.toUInt8 (aT z12 (8:Int)))):Int)
 let z14:Int:=(24:Int)+(↑(UInt8.toNat (List.getD z4 (Int.toNat z13) (0:UInt8))):Int)
 let z15:Int:=(↑(UInt8.toNat (UInt64.toUInt8 z12)):Int)
 let z16:Int:=(16:Int)+(↑(UInt8.toNat (List.getD z4 (Int.toNat z15) (0:UInt8))):Int)
 let z17:Int:=(↑(UInt8.toNat (UInt64.toUInt8 (aT a0 (8:Int)))):Int)
 let z18:Int:=(8:Int)+(↑(UInt8.toNat (List.getD z4 (Int.toNat z17) (0:UInt8))):Int)
 let z19:Int:=(↑(UInt8.toNat (UInt64.toUInt8 a0)):Int)
 let z20:Int:=(0:Int)+(↑(UInt8.toNat (List.getD z4 (Int.toNat z19) (0:UInt8))):Int)
 (.br (decide ((4294967296:UInt64)<=a0))
 (.br (decide ((65536:UInt64)<=z0))
  (.br (decide ((256:UInt64)<=z1))
   (gd [inB z2 256,inR z5] (.ok ⟨ej,((z5,()),())⟩))
   (gd [inB z6 256,inR z7] (.ok ⟨ej,((z7,()),())⟩)))
  (.br (decide ((256:UInt64)<=z0))
   (gd [inB z8 256,inR z9] (.ok ⟨ej,((z9,()),())⟩))
   (gd [inB z10 256,inR z11] (.ok ⟨ej,((z11,()),())⟩))))
 (.br (decide ((65536:UInt64)<=a0))
  (.br (decide ((256:UInt64)<=z12))
   (gd [inB z13 256,inR z14] (.ok ⟨ej,((z14,()),())⟩))
   (gd [inB z15 256,inR z16] (.ok ⟨ej,((z16,()),())⟩)))
  (.br (decide ((256:UInt64)<=a0))
   (gd [inB z17 256,inR z18] (.ok ⟨ej,((z18,()),())⟩))
   (gd [inB z19 256,inR z20] (.ok ⟨ej,((z20,()),())⟩)))))
theorem aoL (x:zf) (Q:gM.Y->Prop):wpf te w9 ay 1000 Try.f100 (gM.inp.inj x).tm (gM.inp.inj x).hp (fnK gM Kl Q) (λ_ _=>False)=(vQ (x.1.1)).wpR Q:=by kernel_rfl
theorem Wi (pre:zf->Bool) (F:zf->OT gM.Y) (hF:∀ (x:zf) oy,pre x=true->(F x).run=some oy->(vQ (x.1.1)).run=some oy):aa Try.prog 100 (gM.aD pre F):=
 aB ap tL SA (f:=100) (fn:=Try.f100) (c:=al Try.f100) (by kernel_rfl) (by kernel_rfl) (by kernel_rfl) (S:=gM) (k:=0) (by kernel_rfl) (λR hR=>af) (n:=1000) (sel:=Kl) (λv o h=>by cases h;rfl) (pre:=pre) (F:=F) (T:=λx=>vQ (x.1.1)) (λx Q=>aoL x Q) hF
def eT (x:UInt64):Bool:=(x==16513537)||(x==16521217)
theorem dr {x:UInt64} (h:eT x=true):x=16513537\/x=16521217:=by
 simpa [eT] using h
def zd (x:zf):Bool:=eT x.1.1
def aaF (_:zf):OT gM.Y:=.ok ⟨ej,(((24:Int),()),())⟩
theorem Rt:(vQ 16513537).run=some ⟨ej,(((24:Int),()),())⟩/\(vQ 16521217).run=some ⟨ej,(((24:Int),()),())⟩:=⟨by kernel_rfl,by kernel_rfl⟩
theorem akA:aa Try.prog 100 (gM.aD zd aaF):=Wi _ _ λx oy hp ho=>by
 rw [<-ho]
 clear ho
 obtain ⟨⟨x,⟨⟩⟩,⟨⟩⟩:=x
 rcases dr hp with h|h
 ·have h:x=16513537:=h
  subst h
  exact Rt.1
 ·have h:x=16521217:=h
  subst h
  exact Rt.2
def tl:bI:=(gM.aD zd aaF)
theorem Rs:aa Try.prog 100 tl:=akA
theorem Rr:aC tl:=ax
def xb:Env:=av 100 tl w9
theorem tO:aI Try.prog xb:=ag Rs tL
theorem xa:aq xb:=ab Rr w8
theorem SC:aP Try.prog te xb:=aF follows ap tO xa
def kl:ao:=⟨[.val false .u64],[],true,0,false⟩
abbrev Kk:Type:=((UInt64)×Unit)×(Unit)
def M4:ar:=⟨[.val false .int],[],false⟩
def Rp:SV->Option ar:=λ_=>some M4
def Wh (a0:UInt64):OT kl.Y:=
 (gd [zd ((a0,()),())] (.ok ⟨M4,(((40:Int),()),())⟩))
theorem at0 (x:Kk) (Q:kl.Y->Prop):wpf te xb ay 1000 Try.f98 (kl.inp.inj x).tm (kl.inp.inj x).hp (fnK kl Rp Q) (λ_ _=>False)=(Wh (x.1.1)).wpR Q:=by kernel_rfl
theorem aed (pre:Kk->Bool) (F:Kk->OT kl.Y) (hF:∀ (x:Kk) oy,pre x=true->(F x).run=some oy->(Wh (x.1.1)).run=some oy):aa Try.prog 98 (kl.aD pre F):=
 aB ap tO SC (f:=98) (fn:=Try.f98) (c:=al Try.f98) (by kernel_rfl) (by kernel_rfl) (by kernel_rfl) (S:=kl) (k:=0) (by kernel_rfl) (λR hR=>af) (n:=1000) (sel:=Rp) (λv o h=>by cases h;rfl) (pre:=pre) (F:=F) (T:=λx=>Wh (x.1.1)) (λx Q=>at0 x Q) hF
def Fy (x:Kk):Bool:=eT x.1.1
def akz (_:Kk):OT kl.Y:=.ok ⟨M4,(((40:Int),()),())⟩
theorem aoK:aa Try.prog 98 (kl.aD Fy akz):=aed _ _ λx oy hp ho=>by
 rw [<-ho]
 clear ho
 obtain ⟨⟨x,⟨⟩⟩,⟨⟩⟩:=x
 have hp:eT x=true:=hp
 refine (ah ?_).trans rfl
 simp only [List.all_cons,List.all_nil,Bool.and_true,Bool.and_eq_true]
 first|exact hp|exact ⟨hp,rfl⟩
def zc:bI:=(kl.aD Fy akz)
theorem Wg:aa Try.prog 98 zc:=aoK
theorem Wf:aC zc:=ax
def tN:Env:=av 98 zc xb
theorem mA:aI Try.prog tN:=ag Wg tO
theorem Bz:aq tN:=ab Wf xa
theorem tM:aP Try.prog te tN:=aF follows ap mA Bz
def fC:ao:=⟨[.val false .u64,.val false .u64,.val false .u64],[],true,0,false⟩
abbrev zg:Type:=((UInt64)×(UInt64)×(UInt64)×Unit)×(Unit)
def pP:Shape:=⟨135,[(2,.val false .u64),(8,.val false .u64),(9,.val false .u64),(10,.val false .u64),(11,.val false .u64),(13,.val false .u64),(14,.val false .u64),(15,.val false .u64),(16,.val false .u64)],[],0,true⟩
abbrev cd:Type:=((UInt64)×(UInt64)×(UInt64)×(UInt64)×(UInt64)×(UInt64)×(UInt64)×(UInt64)×(UInt64)×Unit)×(Unit)
def kn:Shape:=⟨135,[(2,.val false .u64),(8,.val false .u64),(9,.val false .u64),(10,.val false .u64),(11,.val false .u64),(13,.val false .u64),(14,.val false .u64),(15,.val false .u64)],[],0,true⟩
abbrev iE:Type:=((UInt64)×(UInt64)×(UInt64)×(UInt64)×(UInt64)×(UInt64)×(UInt64)×(UInt64)×Unit)×(Unit)
def Rz:SE->Option Shape:=kv [(0,kn)] none
def akI (a2:UInt64) (a8:UInt64) (a9:UInt64) (a10:UInt64) (a11:UInt64) (a13:UInt64) (a14:UInt64) (a15:UInt64) (a16:UInt64):OT (Sum cd aJ):=
 let z0:Bool:=decide ((4294967296:UInt64)<=a16+a9)
 (.br (decide ((4294967296:UInt64)<=a15))
 (.br (z0)
  (.ok (.inr ⟨(.exit 0,kn),((a2,(a8,(a9,(a10,(a11,(a13,(a14,(a15-(1:UInt64),())))))))),())⟩))
  (.ok (.inl ((a2,(a8,(a9,(a10,(a11,(a13,(a14,(a15-(1:UInt64),(a16+a9,()))))))))),()))))
 (.br (decide ((4294967296:UInt64)*a16+a13<a15*a10))
  (.br (z0)
   (.ok (.inr ⟨(.exit 0,kn),((a2,(a8,(a9,(a10,(a11,(a13,(a14,(a15-(1:UInt64),())))))))),())⟩))
   (.ok (.inl ((a2,(a8,(a9,(a10,(a11,(a13,(a14,(a15-(1:UInt64),(a16+a9,()))))))))),()))))
  (.ok (.inr ⟨(.exit 0,kn),((a2,(a8,(a9,(a10,(a11,(a13,(a14,(a15,())))))))),())⟩))))
def vV (s:cd):OT (Sum cd aJ):=akI (s.1.1) (s.1.2.1) (s.1.2.2.1) (s.1.2.2.2.1) (s.1.2.2.2.2.1) (s.1.2.2.2.2.2.1) (s.1.2.2.2.2.2.2.1) (s.1.2.2.2.2.2.2.2.1) (s.1.2.2.2.2.2.2.2.2.1)
theorem akD (s:cd) (Q:Sum cd aJ->Prop):wps te tN ay 1000 (bk (al Try.f91) 0) (pP.inj s) (cO pP Rz (Q:Sum pP.T aJ->Prop))=(vV s).wpR Q:=by kernel_rfl
def vT (g0_0:cd->iE) (s:cd):OT aJ:=(.ok ⟨(.exit 0,kn),g0_0 s⟩)
def pO:Shape:=⟨135,[(2,.val false .u64),(8,.val false .u64),(9,.val false .u64),(10,.val false .u64),(14,.val false .u64),(15,.val false .u64),(16,.val false .u64),(17,.val false .u64),(18,.val false .u64)],[],0,true⟩
abbrev cc:Type:=((UInt64)×(UInt64)×(UInt64)×(UInt64)×(UInt64)×(UInt64)×(UInt64)×(UInt64)×(UInt64)×Unit)×(Unit)
def km:Shape:=⟨135,[(2,.val false .u64),(8,.val false .u64),(14,.val false .u64),(15,.val false .u64),(17,.val false .u64),(18,.val false .u64)],[],0,true⟩
abbrev iD:Type:=((UInt64)×(UInt64)×(UInt64)×(UInt64)×(UInt64)×(UInt64)×Unit)×(Unit)
def Ry:SE->Option Shape:=kv [(2,km)] none
def akH (a2:UInt64) (a8:UInt64) (a9:UInt64) (a10:UInt64) (a14:UInt64) (a15:UInt64) (a16:UInt64) (a17:UInt64) (a18:UInt64):OT (Sum cc aJ):=
 let z0:Bool:=decide ((4294967296:UInt64)<=a16+a9)
 (.br (decide ((4294967296:UInt64)<=a18))
 (.br (z0)
  (.ok (.inr ⟨(.exit 2,km),((a2,(a8,(a14,(a15,(a17,(a18-(1:UInt64),())))))),())⟩))
  (.ok (.inl ((a2,(a8,(a9,(a10,(a14,(a15,(a16+a9,(a17,(a18-(1:UInt64),()))))))))),()))))
 (.br (decide ((4294967296:UInt64)*a16+a14<a18*a10))
  (.br (z0)
   (.ok (.inr ⟨(.exit 2,km),((a2,(a8,(a14,(a15,(a17,(a18-(1:UInt64),())))))),())⟩))
   (.ok (.inl ((a2,(a8,(a9,(a10,(a14,(a15,(a16+a9,(a17,(a18-(1:UInt64),()))))))))),()))))
  (.ok (.inr ⟨(.exit 2,km),((a2,(a8,(a14,(a15,(a17,(a18,())))))),())⟩))))
def vU (s:cc):OT (Sum cc aJ):=akH (s.1.1) (s.1.2.1) (s.1.2.2.1) (s.1.2.2.2.1) (s.1.2.2.2.2.1) (s.1.2.2.2.2.2.1) (s.1.2.2.2.2.2.2.1) (s.1.2.2.2.2.2.2.2.1) (s.1.2.2.2.2.2.2.2.2.1)
theorem akC (s:cc) (Q:Sum cc aJ->Prop):wps te tN ay 1000 (bk (al Try.f91) 2) (pO.inj s) (cO pO Ry (Q:Sum pO.T aJ->Prop))=(vU s).wpR Q:=by kernel_rfl
def vS (g2_2:cc->iD) (s:cc):OT aJ:=(.ok ⟨(.exit 2,km),g2_2 s⟩)
def mj:ar:=⟨[.val false .u64,.val false .u64],[],false⟩
def Km:SV->Option ar:=λ_=>some mj
def Ck (ok0:cd->Bool) (g0_0:cd->iE) (ok2:cc->Bool) (g2_2:cc->iD) (a0:UInt64) (a1:UInt64) (a2:UInt64):OT fC.Y:=
 let z0:Bool:= !a2==(0:UInt64)
 let z1:UInt64:=bL a2 (40:Int)
 let z2:UInt64:=aT z1 (32:Int)
 let z3:UInt64:=bL a0 (40:Int)|||aT a1 (24:Int)
 let z4:UInt64:=bL a1 (40:Int)
 let z5:UInt64:=z3/z2
 let z6:(UInt64×UInt64×UInt64×UInt64×UInt64×UInt64×UInt64×UInt64×UInt64×PUnit)×PUnit:=((z1,(40:UInt64),z2,z1&&&(4294967295:UInt64),z3,aT z4 (32:Int),z4&&&(4294967295:UInt64),z5,z3-z5*z2,()),())
 let z7:=(g0_0 z6).fst
 let z8:=z7.snd
 let z9:=z8.snd
 let z10:=z9.fst
 let z11:=z7.fst
 let z12:=z9.snd
 let z13:=z12.snd
 let z14:=z13.snd
 let z15:=z14.snd
 let z16:=z15.snd.fst
 let z17:UInt64:=z13.fst*(4294967296:UInt64)+z14.fst-z16*z11
 let z18:UInt64:=z17/z10
 let z19:(UInt64×UInt64×UInt64×UInt64×UInt64×UInt64×UInt64×UInt64×UInt64×PUnit)×PUnit:=((z11,z8.fst,z10,z12.fst,z15.fst,z16,z17-z18*z10,z17,z18,()),())
 let z20:=(g2_2 z19).fst
 let z21:=z20.snd
 let z22:=z21.snd
 let z23:=z22.snd
 let z24:=z23.snd
 let z25:=z24.snd.fst
 (.br (a2==(0:UInt64))
 .fail
 (.br (decide (a2<=a0))
  .fail
  (.br (a0==(0:UInt64))
   (gd [z0,z0] (.ok ⟨mj,((a1/a2,(a1%a2,())),())⟩))
   (gd [Fy ((a2,()),()),!z2==(0:UInt64),ok0 z6,!z10==(0:UInt64),ok2 z19] (.ok ⟨mj,((z23.fst*(4294967296:UInt64)+z25,(aT (z24.fst*(4294967296:UInt64)+z22.fst-z25*z20.fst) (↑(UInt64.toNat z21.fst):Int),())),())⟩)))))
theorem aoO (ok0:cd->Bool) (g0_0:cd->iE) (ok2:cc->Bool) (g2_2:cc->iD) (x:zg) (Q:fC.Y->Prop):wpf te tN (bu 2 (dq pO 2 ok2 (vS g2_2)) (bu 0 (dq pP 0 ok0 (vT g0_0)) ay)) 1000 Try.f91 (fC.inp.inj x).tm (fC.inp.inj x).hp (fnK fC Km Q) (λ_ _=>False)=(Ck ok0 g0_0 ok2 g2_2 (x.1.1) (x.1.2.1) (x.1.2.2.1)).wpR Q:=by kernel_rfl
theorem Wn (ok0:cd->Bool) (g0_0:cd->iE) (ok2:cc->Bool) (g2_2:cc->iD) (h0:∀ s:cd,ok0 s=true->∃ m e,aA (vV) m s=some e/\(vT g0_0 s).run=some e) (h2:∀ s:cc,ok2 s=true->∃ m e,aA (vU) m s=some e/\(vS g2_2 s).run=some e) (pre:zg->Bool) (F:zg->OT fC.Y) (hF:∀ (x:zg) oy,pre x=true->(F x).run=some oy->(Ck ok0 g0_0 ok2 g2_2 (x.1.1) (x.1.2.1) (x.1.2.2.1)).run=some oy):aa Try.prog 91 (fC.aD pre F):=
 aB ap mA tM (f:=91) (fn:=Try.f91) (c:=al Try.f91) (by kernel_rfl) (by kernel_rfl) (by kernel_rfl) (S:=fC) (k:=0) (by kernel_rfl) (λR hR=>(aH (c:=(al Try.f91)) (by kernel_rfl) (id:=2) (by kernel_rfl) (bn ap mA tM (sh:=pO) hR (xs:=Ry) (aG (by kernel_rfl) (by kernel_rfl) hR) aV af (n:=1000) (T:=vU) (λs Q=>akC s Q) (ok:=ok2) (f:=vS g2_2) h2) (aH (c:=(al Try.f91)) (by kernel_rfl) (id:=0) (by kernel_rfl) (bn ap mA tM (sh:=pP) hR (xs:=Rz) (aG (by kernel_rfl) (by kernel_rfl) hR) aV af (n:=1000) (T:=vV) (λs Q=>akD s Q) (ok:=ok0) (f:=vT g0_0) h0) af))) (n:=1000) (sel:=Km) (λv o h=>by cases h;rfl) (pre:=pre) (F:=F) (T:=λx=>Ck ok0 g0_0 ok2 g2_2 (x.1.1) (x.1.2.1) (x.1.2.2.1)) (λx Q=>aoO ok0 g0_0 ok2 g2_2 x Q) hF
def Ko (s:cd):Bool:=decide (s.1.2.2.2.1=0/\s.1.2.2.2.2.2.2.2.1<4294967296)
def RE (s:cd):iE:=((s.1.1,s.1.2.1,s.1.2.2.1,s.1.2.2.2.1,s.1.2.2.2.2.1,s.1.2.2.2.2.2.1,s.1.2.2.2.2.2.2.1,s.1.2.2.2.2.2.2.2.1,()),())
theorem DP {a b:UInt64} (h:b<a):decide (a<=b)=false:=decide_eq_false (by rw [UInt64.le_iff_toNat_le,UInt64.lt_iff_toNat_lt] at*;omega)
theorem not_lt_zero {a b:UInt64}:decide (a<b*0)=false:=decide_eq_false (by
 have:b*0=0:=by rw [<-UInt64.toNat_inj];simp
 rw [this,UInt64.lt_iff_toNat_lt]
 exact Nat.not_lt_zero _)
theorem akG:∀ s:cd,Ko s=true->∃ m e,aA vV m s=some e/\(vT RE s).run=some e:=by
 rintro ⟨⟨a2,a8,a9,a10,a11,a13,a14,a15,a16,⟨⟩⟩,⟨⟩⟩ h
 have h':=of_decide_eq_true h
 dsimp only at h'
 obtain ⟨rfl,hl⟩:=h'
 exact ⟨1,_,bt ((OT.aw (DP hl)).trans (OT.aw not_lt_zero)),rfl⟩
def Kn (s:cc):Bool:=decide (s.1.2.2.2.1=0/\s.1.2.2.2.2.2.2.2.2.1<4294967296)
def RD (s:cc):iD:=((s.1.1,s.1.2.1,s.1.2.2.2.2.1,s.1.2.2.2.2.2.1,s.1.2.2.2.2.2.2.2.1,s.1.2.2.2.2.2.2.2.2.1,()),())
theorem akF:∀ s:cc,Kn s=true->∃ m e,aA vU m s=some e/\(vS RD s).run=some e:=by
 rintro ⟨⟨a2,a8,a9,a10,a14,a15,a16,a17,a18,⟨⟩⟩,⟨⟩⟩ h
 have h':=of_decide_eq_true h
 dsimp only at h'
 obtain ⟨rfl,hl⟩:=h'
 exact ⟨1,_,bt ((OT.aw (DP hl)).trans (OT.aw not_lt_zero)),rfl⟩
def rm (x:zg):Bool:=eT x.1.2.2.1&&decide (x.1.1<x.1.2.2.1)
def M9 (x:zg):OT fC.Y:=.ok ⟨mj,((auj x.1.1 x.1.2.1 x.1.2.2.1,QS x.1.1 x.1.2.1 x.1.2.2.1,()),())⟩
theorem aeV {v z:Nat} (hv:v<4294967296) (hz:z<4294967296):(v*4294967296%2^64+z)%2^64=(v*(256*16777216)+z)%2^64:=by
 rw [Nat.mod_eq_of_lt (a:=v*4294967296) (by omega)]
theorem ali {s:Nat} (hs:s<4294967296):s*4294967296/2^40=s/256%2^64:=by
 rw [Nat.mod_eq_of_lt (by omega),show (2:Nat)^40=256*4294967296 from rfl,Nat.mul_div_mul_right _ _ (by omega)]
theorem RA {h l y:UInt64} {m:Nat} (hm:y.toNat=m) (hy:(bL y 40).toNat=m*1099511627776) (hy1:(aT (bL y 40) 32).toNat=m*256) (hy0:bL y 40&&&4294967295=0) (hm0:0<m) (hm1:m<16777216) (hh:h.toNat<m):
 let u:=bL h 40|||aT l 24
 let q1:=u/aT (bL y 40) 32
 let un21:=u*4294967296+aT (bL l 40) 32-q1*bL y 40
 let q0:=un21/aT (bL y 40) 32
 q1<4294967296/\q0<4294967296/\q1*4294967296+q0=auj h l y/\aT (un21*4294967296+(bL l 40&&&4294967295)-q0*bL y 40) 40=QS h l y:=by
 intro u q1 un21 q0
 have hl:=l.toNat_lt
 have hu:u.toNat=h.toNat*1099511627776+l.toNat/16777216:=by
  have e1:(bL h 40).toNat=h.toNat*1099511627776:=by
   rw [show ((40:Int))=((40:Nat):Int) from rfl,jG _ _ (by omega)]
   exact Nat.mod_eq_of_lt (by omega)
  have e2:(aT l 24).toNat=l.toNat/16777216:=eI l 24 (by omega)
  simp only [u]
  rw [UInt64.toNat_or,e1,e2,Nat.mul_comm]
  have:=Nat.two_pow_add_eq_or_of_lt (i:=40) (b:=l.toNat/16777216) (by omega) h.toNat
  exact this.symm
 have hun1:(aT (bL l 40) 32).toNat=l.toNat%16777216*256:=by
  rw [show ((32:Int))=((32:Nat):Int) from rfl,eI _ _ (by omega),show ((40:Int))=((40:Nat):Int) from rfl,jG _ _ (by omega)]
  omega
 have hun0:bL l 40&&&4294967295=0:=by
  rw [<-UInt64.toNat_inj,ig,show ((40:Int))=((40:Nat):Int) from rfl,jG _ _ (by omega)]
  show l.toNat*2^40%2^64%4294967296=0
  omega
 have hq1:q1.toNat=u.toNat/(m*256):=by simp only [q1];rw [UInt64.toNat_div,hy1]
 have hN:h.toNat*18446744073709551616+l.toNat=u.toNat*16777216+l.toNat%16777216:=by rw [hu];omega
 have hqr:u.toNat=q1.toNat*(m*256)+u.toNat%(m*256):=by
  rw [hq1,Nat.mul_comm]
  exact (Nat.div_add_mod _ _).symm
 have hr:u.toNat%(m*256)<m*256:=Nat.mod_lt _ (by omega)
 have hul:u.toNat<m*256*4294967296:=by rw [hu];omega
 have hq1l:q1.toNat<4294967296:=by rw [hq1];exact Nat.div_lt_of_lt_mul hul
 generalize hrr:u.toNat%(m*256)=r at*
 have hprod:q1.toNat*(m*1099511627776)=q1.toNat*(m*256)*4294967296:=by
  rw [Nat.mul_assoc,Nat.mul_assoc]
 have h21:un21.toNat=r*4294967296+l.toNat%16777216*256:=by
  simp only [un21]
  rw [UInt64.toNat_sub,UInt64.toNat_add,UInt64.toNat_mul,UInt64.toNat_mul,hun1,hy,hprod,show (4294967296:UInt64).toNat=4294967296 from rfl]
  generalize q1.toNat*(m*256)=A at*
  omega
 have hq0:q0.toNat=un21.toNat/(m*256):=by simp only [q0];rw [UInt64.toNat_div,hy1]
 have h21l:un21.toNat<m*256*4294967296:=by rw [h21];omega
 have hq0l:q0.toNat<4294967296:=by rw [hq0];exact Nat.div_lt_of_lt_mul h21l
 have hqr0:un21.toNat=q0.toNat*(m*256)+un21.toNat%(m*256):=by
  rw [hq0,Nat.mul_comm]
  exact (Nat.div_add_mod _ _).symm
 have hr0:un21.toNat%(m*256)<m*256:=Nat.mod_lt _ (by omega)
 obtain ⟨d1,d2⟩:=MG (K:=16777216) (L:=256) hm0 (by omega) hN hqr
 have e21:(r*16777216+l.toNat%16777216)*256=un21.toNat:=by rw [h21];omega
 rw [e21] at d1 d2
 refine ⟨by rw [UInt64.lt_iff_toNat_lt];exact hq1l,by rw [UInt64.lt_iff_toNat_lt];exact hq0l,?_,?_⟩
 ·rw [<-UInt64.toNat_inj,UInt64.toNat_add,UInt64.toNat_mul,show (4294967296:UInt64).toNat=4294967296 from rfl,hq0]
  unfold auj
  rw [hm,UInt64.toNat_ofNat',d1,<-hq0]
  exact aeV hq1l hq0l
 ·have hprod0:q0.toNat*(m*1099511627776)=q0.toNat*(m*256)*4294967296:=by
   rw [Nat.mul_assoc,Nat.mul_assoc]
  have e3:(un21*4294967296+(bL l 40&&&4294967295)-q0*bL y 40).toNat=(un21.toNat%(m*256))*4294967296:=by
   rw [hun0,UInt64.toNat_sub,UInt64.toNat_add,UInt64.toNat_mul,UInt64.toNat_mul,hy,hprod0,show (4294967296:UInt64).toNat=4294967296 from rfl,show (0:UInt64).toNat=0 from rfl]
   generalize un21.toNat%(m*256)=s at*
   generalize q0.toNat*(m*256)=A at*
   omega
  rw [<-UInt64.toNat_inj,show ((40:Int))=((40:Nat):Int) from rfl,eI _ _ (by omega),show ((40:Nat):Int)=40 from rfl,e3]
  unfold QS
  rw [hm,UInt64.toNat_ofNat',d2]
  exact ali (by omega)
theorem TG {y:UInt64} (h:eT y=true):∃ m,y.toNat=m/\(bL y 40).toNat=m*1099511627776/\(aT (bL y 40) 32).toNat=m*256/\bL y 40&&&4294967295=0/\0<m/\m<16777216:=by
 rcases dr h with rfl|rfl
 ·exact ⟨16513537,rfl,by decide+kernel,by decide+kernel,by decide+kernel,by omega,by omega⟩
 ·exact ⟨16521217,rfl,by decide+kernel,by decide+kernel,by decide+kernel,by omega,by omega⟩
theorem akE:aa Try.prog 91 (fC.aD rm M9):=Wn Ko RE Kn RD akG akF _ _ λx oy hp ho=>by
 rw [<-ho]
 clear ho
 obtain ⟨⟨h,l,y,⟨⟩⟩,⟨⟩⟩:=x
 have hp':(eT y&&decide (h<y))=true:=hp
 rw [Bool.and_eq_true] at hp'
 obtain ⟨hs,hlt⟩:=hp'
 have hlt:=of_decide_eq_true hlt
 obtain ⟨m,f1,f2,f3,f4,f5,f6⟩:=TG hs
 have hh:h.toNat<m:=by rw [<-f1];exact UInt64.lt_iff_toNat_lt.1 hlt
 have hy0:¬y=0:=λe=>by rw [e] at f1;simp at f1;omega
 have hyb:(y==0)=false:=by simpa using hy0
 have hle:decide (y<=h)=false:=DP hlt
 unfold Ck
 refine (OT.aw hyb).trans ((OT.aw hle).trans ?_)
 by_cases h0:h=0
 ·subst h0
  refine (OT.au rfl).trans ((ah ?_).trans ?_)
  ·simp only [hyb,List.all_cons,List.all_nil,Bool.and_true,Bool.not_false]
  ·have e1:auj 0 l y=l/y:=by
    rw [<-UInt64.toNat_inj]
    unfold auj
    rw [UInt64.toNat_ofNat',UInt64.toNat_div,show (0:UInt64).toNat=0 from rfl,Nat.zero_mul,Nat.zero_add]
    exact Nat.mod_eq_of_lt (Nat.lt_of_le_of_lt (Nat.div_le_self _ _) l.toNat_lt)
   have e2:QS 0 l y=l%y:=by
    rw [<-UInt64.toNat_inj]
    unfold QS
    rw [UInt64.toNat_ofNat',UInt64.toNat_mod,show (0:UInt64).toNat=0 from rfl,Nat.zero_mul,Nat.zero_add]
    exact Nat.mod_eq_of_lt (Nat.lt_of_le_of_lt (Nat.mod_le _ _) l.toNat_lt)
   simp only [M9,e1,e2]
 ·have hb:(h==0)=false:=by simpa using h0
  obtain ⟨w1,w2,w3,w4⟩:=RA (l:=l) f1 f2 f3 f4 f5 f6 hh
  have hz:(!(aT (bL y 40) 32==0))=true:=by
   have:¬aT (bL y 40) 32=0:=λe=>by rw [e] at f3;simp at f3;omega
   simpa using this
  refine (OT.aw hb).trans ((ah ?_).trans ?_)
  ·simp only [List.all_cons,List.all_nil,Bool.and_true,Bool.and_eq_true]
   exact ⟨hs,hz,decide_eq_true ⟨f4,w1⟩,hz,decide_eq_true ⟨f4,w2⟩⟩
  ·show some (⟨mj,((_,aT _ ((40:UInt64).toNat:Int),()),())⟩:fC.Y)=some ⟨mj,((auj h l y,QS h l y,()),())⟩
   rw [<-w3,<-w4]
   rfl
def tn:bI:=(fC.aD rm M9)
theorem RC:aa Try.prog 91 tn:=akE
theorem RB:aC tn:=ax
def rQ:Env:=av 91 tn tN
theorem nU:aI Try.prog rQ:=ag RC mA
theorem xd:aq rQ:=ab RB Bz
theorem BA:aP Try.prog te rQ:=aF follows ap nU xd
def og:ao:=⟨[.val true .elem,.val true .elem],[],true,0,false⟩
abbrev aa6:Type:=((ac)×(ac)×Unit)×(Unit)
def CE:Shape:=⟨29,[(2,.ptr 0 0 0),(3,.ptr 1 0 0),(4,.ptr 2 0 0),(6,.ptr 3 0 0),(7,.val false .u64),(9,.val false .int)],[(0,.row .u64),(1,.row .u64),(2,.row .u64),(3,.row .u64)],0,true⟩
abbrev cY:Type:=((Unit)×(Unit)×(Unit)×(Unit)×(UInt64)×(Int)×Unit)×((List (UInt64))×(List (UInt64))×(List (UInt64))×(List (UInt64))×Unit)
def tX:Shape:=⟨29,[(4,.ptr 0 0 0),(6,.ptr 1 0 0),(7,.val false .u64)],[(0,.row .u64),(1,.row .u64)],0,true⟩
abbrev lk:Type:=((Unit)×(Unit)×(UInt64)×Unit)×((List (UInt64))×(List (UInt64))×Unit)
def aeY:SE->Option Shape:=kv [(0,tX)] none
def aqo (a7:UInt64) (a9:Int) (c0:List (UInt64)) (c1:List (UInt64)) (c2:List (UInt64)) (c3:List (UInt64)):OT (Sum cY aJ):=
 let z0:Bool:=inB a9 4
 let z1:UInt64:=List.getD c0 (Int.toNat a9+0) (0:UInt64)
 let z2:UInt64:=List.getD c1 (Int.toNat a9+0) (0:UInt64)
 (.br (decide (a9<(4:Int)))
 (gd [z0,decide (Int.toNat a9+0<List.length c0),z0,decide (Int.toNat a9+0<List.length c1),zi ((z1,z2,a7,()),()),z0,decide (Int.toNat a9+0<List.length c3),inR (a9+(1:Int))] (.ok (.inl (((),((),((),((),(tR z1 z2 a7,(a9+(1:Int),())))))),(c0,(c1,(c2,(List.set c3 (Int.toNat a9+0) (rS z1 z2 a7),()))))))))
 (.ok (.inr ⟨(.exit 0,tX),(((),((),(a7,()))),(c2,(c3,())))⟩)))
def CF (s:cY):OT (Sum cY aJ):=aqo (s.1.2.2.2.2.1) (s.1.2.2.2.2.2.1) (s.2.1) (s.2.2.1) (s.2.2.2.1) (s.2.2.2.2.1)
theorem aql (s:cY) (Q:Sum cY aJ->Prop):wps te rQ ay 1000 (bk (al Try.f69) 0) (CE.inj s) (cO CE aeY (Q:Sum CE.T aJ->Prop))=(CF s).wpR Q:=by kernel_rfl
def KN (g0_0:cY->lk) (s:cY):OT aJ:=(.ok ⟨(.exit 0,tX),g0_0 s⟩)
def SO:ar:=⟨[.val true .elem,.val false .bool],[],false⟩
def Xf:SV->Option ar:=λ_=>some SO
def ae1 (ok0:cY->Bool) (g0_0:cY->lk) (a0:ac) (a1:ac):OT og.Y:=
 let z0:(PUnit×PUnit×PUnit×PUnit×UInt64×Int×PUnit)×List UInt64×List UInt64×List UInt64×List UInt64×PUnit:=(((),(),(),(),(0:UInt64),(0:Int),()),[a0.w0,a0.w1,a0.w2,a0.w3],[a1.w0,a1.w1,a1.w2,a1.w3],[(0:UInt64),(0:UInt64),(0:UInt64),(0:UInt64)],[(0:UInt64),(0:UInt64),(0:UInt64),(0:UInt64)],())
 let z1:(PUnit×PUnit×UInt64×PUnit)×List UInt64×List UInt64×PUnit:=g0_0 z0
 let z2:=z1.snd
 let z3:=z2.snd.fst
 let z4:=z2.fst
 let z5:List UInt64:=lay z4 z3 4 (0:UInt64)
 (gd [ok0 z0,decide (4<=List.length z3),decide ((4/1:Nat)+0<=List.length z4),decide (4<=List.length z5)] (.ok ⟨SO,(({w0:=List.getD z5 0 0,w1:=List.getD z5 1 0,w2:=List.getD z5 2 0,w3:=List.getD z5 3 0},(!z1.fst.snd.snd.fst==(0:UInt64),())),())⟩))
theorem aup (ok0:cY->Bool) (g0_0:cY->lk) (x:aa6) (Q:og.Y->Prop):wpf te rQ (bu 0 (dq CE 0 ok0 (KN g0_0)) ay) 1000 Try.f69 (og.inp.inj x).tm (og.inp.inj x).hp (fnK og Xf Q) (λ_ _=>False)=(ae1 ok0 g0_0 (x.1.1) (x.1.2.1)).wpR Q:=by kernel_rfl
theorem aeZ (ok0:cY->Bool) (g0_0:cY->lk) (h0:∀ s:cY,ok0 s=true->∃ m e,aA (CF) m s=some e/\(KN g0_0 s).run=some e) (pre:aa6->Bool) (F:aa6->OT og.Y) (hF:∀ (x:aa6) oy,pre x=true->(F x).run=some oy->(ae1 ok0 g0_0 (x.1.1) (x.1.2.1)).run=some oy):aa Try.prog 69 (og.aD pre F):=
 aB ap nU BA (f:=69) (fn:=Try.f69) (c:=al Try.f69) (by kernel_rfl) (by kernel_rfl) (by kernel_rfl) (S:=og) (k:=0) (by kernel_rfl) (λR hR=>(aH (c:=(al Try.f69)) (by kernel_rfl) (id:=0) (by kernel_rfl) (bn ap nU BA (sh:=CE) hR (xs:=aeY) (aG (by kernel_rfl) (by kernel_rfl) hR) aV af (n:=1000) (T:=CF) (λs Q=>aql s Q) (ok:=ok0) (f:=KN g0_0) h0) af)) (n:=1000) (sel:=Xf) (λv o h=>by cases h;rfl) (pre:=pre) (F:=F) (T:=λx=>ae1 ok0 g0_0 (x.1.1) (x.1.2.1)) (λx Q=>aup ok0 g0_0 x Q) hF
def HS (a b:List UInt64) (k:Nat) (s:List UInt64×UInt64):List UInt64×UInt64:=(s.1.set k (rS (a.getD k 0) (b.getD k 0) s.2),tR (a.getD k 0) (b.getD k 0) s.2)
def Xh (s:cY):Bool:=decide (s.1.2.2.2.2.1=0/\s.1.2.2.2.2.2.1=0/\s.2.1.length=4/\s.2.2.1.length=4/\s.2.2.2.2.1= [0,0,0,0])
def ae0 (s:cY):lk:=(((),(),(upto (HS s.2.1 s.2.2.1) ([0,0,0,0],0) 4).2,()),(s.2.2.2.1,(upto (HS s.2.1 s.2.2.1) ([0,0,0,0],0) 4).1,()))
theorem aqn:∀ s:cY,Xh s=true->∃ m e,aA CF m s=some e/\(KN ae0 s).run=some e:=by
 rintro ⟨⟨⟨⟩,⟨⟩,⟨⟩,⟨⟩,c,i,⟨⟩⟩,⟨c0,c1,c2,c3,⟨⟩⟩⟩ h
 have h':=of_decide_eq_true h
 dsimp only at h'
 obtain ⟨rfl,rfl,h0,h1,rfl⟩:=h'
 have:=(bw (T:=CF) (λk s=>((((),(),(),(),s.2,(k:Int),()),(c0,c1,c2,s.1,())):cY)) (HS c0 c1)
  (λs=>(⟨(.exit 0,tX),(((),(),s.2,()),(c2,s.1,()))⟩:aJ)) 4 ([0,0,0,0],0) (λ_ s=>s.1.length=4/\s.2.toNat<=1) ⟨rfl,by decide⟩ (λk s hk hs=>⟨?_,?_⟩) (λs hs=> ?_)).1
 ·obtain ⟨m,hm⟩:=this
  exact ⟨m,_,hm,rfl⟩
 ·refine (OT.au (decide_eq_true (by dsimp only;omega))).trans ((ah ?_).trans ?_)
  ·simp only [Int.toNat_natCast,Nat.add_zero,h0,h1,hs.1,List.all_cons,List.all_nil,Bool.and_true,Bool.and_eq_true]
   exact ⟨bc (by omega),decide_eq_true (by omega),bc (by omega),decide_eq_true (by omega),decide_eq_true hs.2,bc (by omega),decide_eq_true (by omega),aS (by omega)⟩
  ·simp only [OT.eC,Int.toNat_natCast,Nat.add_zero]
   rfl
 ·exact ⟨by simp only [HS,List.length_set];exact hs.1,zk hs.2⟩
 ·exact OT.aw (decide_eq_false (by dsimp only;omega))
theorem auc (x y:List UInt64) (hx:x.length=4) (hy:y.length=4):lay x y 4 0=y:=PJ hx hy
def Xg (_:aa6):Bool:=true
def ae2 (x:aa6):OT og.Y:=.ok ⟨SO,(((mD x.1.1 x.1.2.1).1,((mD x.1.1 x.1.2.1).2,())),())⟩
theorem aqm:aa Try.prog 69 (og.aD Xg ae2):=aeZ Xh ae0 aqn _ _ λx oy hp ho=>by
 rw [<-ho]
 clear ho
 obtain ⟨⟨a,b,⟨⟩⟩,⟨⟩⟩:=x
 obtain ⟨_,hw⟩:=HZ a b
 refine (ah ?_).trans ?_
 ·simp only [List.all_cons,List.all_nil,Bool.and_true,Bool.and_eq_true]
  exact ⟨rfl,rfl,rfl,rfl⟩
 ·simp only [ae2,hw]
  rfl
def CD:bI:=(og.aD Xg ae2)
theorem aa5:aa Try.prog 69 CD:=aqm
theorem aa4:aC CD:=ax
def Kv:Env:=av 69 CD rQ
theorem wk:aI Try.prog Kv:=ag aa5 nU
theorem FN:aq Kv:=ab aa4 xd
theorem Ku:aP Try.prog te Kv:=aF follows ap wk FN
def n9:ao:=⟨[.val true .elem,.val true .elem],[],true,0,false⟩
abbrev aaV:Type:=((ac)×(ac)×Unit)×(Unit)
def Cu:Shape:=⟨29,[(2,.ptr 0 0 0),(3,.ptr 1 0 0),(4,.ptr 2 0 0),(6,.ptr 3 0 0),(7,.val false .u64),(9,.val false .int)],[(0,.row .u64),(1,.row .u64),(2,.row .u64),(3,.row .u64)],0,true⟩
abbrev cX:Type:=((Unit)×(Unit)×(Unit)×(Unit)×(UInt64)×(Int)×Unit)×((List (UInt64))×(List (UInt64))×(List (UInt64))×(List (UInt64))×Unit)
def tT:Shape:=⟨29,[(4,.ptr 0 0 0),(6,.ptr 1 0 0),(7,.val false .u64)],[(0,.row .u64),(1,.row .u64)],0,true⟩
abbrev lj:Type:=((Unit)×(Unit)×(UInt64)×Unit)×((List (UInt64))×(List (UInt64))×Unit)
def aeI:SE->Option Shape:=kv [(0,tT)] none
def aqd (a7:UInt64) (a9:Int) (c0:List (UInt64)) (c1:List (UInt64)) (c2:List (UInt64)) (c3:List (UInt64)):OT (Sum cX aJ):=
 let z0:Bool:=inB a9 4
 let z1:UInt64:=List.getD c0 (Int.toNat a9+0) (0:UInt64)
 let z2:UInt64:=List.getD c1 (Int.toNat a9+0) (0:UInt64)
 (.br (decide (a9<(4:Int)))
 (gd [z0,decide (Int.toNat a9+0<List.length c0),z0,decide (Int.toNat a9+0<List.length c1),y6 ((z1,z2,a7,()),()),z0,decide (Int.toNat a9+0<List.length c3),inR (a9+(1:Int))] (.ok (.inl (((),((),((),((),(NI z1 z2 a7,(a9+(1:Int),())))))),(c0,(c1,(c2,(List.set c3 (Int.toNat a9+0) (mN z1 z2 a7),()))))))))
 (.ok (.inr ⟨(.exit 0,tT),(((),((),(a7,()))),(c2,(c3,())))⟩)))
def Cv (s:cX):OT (Sum cX aJ):=aqd (s.1.2.2.2.2.1) (s.1.2.2.2.2.2.1) (s.2.1) (s.2.2.1) (s.2.2.2.1) (s.2.2.2.2.1)
theorem aqa (s:cX) (Q:Sum cX aJ->Prop):wps te Kv ay 1000 (bk (al Try.f66) 0) (Cu.inj s) (cO Cu aeI (Q:Sum Cu.T aJ->Prop))=(Cv s).wpR Q:=by kernel_rfl
def KI (g0_0:cX->lj) (s:cX):OT aJ:=(.ok ⟨(.exit 0,tT),g0_0 s⟩)
def SH:ar:=⟨[.val true .elem,.val false .bool],[],false⟩
def W6:SV->Option ar:=λ_=>some SH
def aeL (ok0:cX->Bool) (g0_0:cX->lj) (a0:ac) (a1:ac):OT n9.Y:=
 let z0:(PUnit×PUnit×PUnit×PUnit×UInt64×Int×PUnit)×List UInt64×List UInt64×List UInt64×List UInt64×PUnit:=(((),(),(),(),(0:UInt64),(0:Int),()),[a0.w0,a0.w1,a0.w2,a0.w3],[a1.w0,a1.w1,a1.w2,a1.w3],[(0:UInt64),(0:UInt64),(0:UInt64),(0:UInt64)],[(0:UInt64),(0:UInt64),(0:UInt64),(0:UInt64)],())
 let z1:(PUnit×PUnit×UInt64×PUnit)×List UInt64×List UInt64×PUnit:=g0_0 z0
 let z2:=z1.snd
 let z3:=z2.snd.fst
 let z4:=z2.fst
 let z5:List UInt64:=lay z4 z3 4 (0:UInt64)
 (gd [ok0 z0,decide (4<=List.length z3),decide ((4/1:Nat)+0<=List.length z4),decide (4<=List.length z5)] (.ok ⟨SH,(({w0:=List.getD z5 0 0,w1:=List.getD z5 1 0,w2:=List.getD z5 2 0,w3:=List.getD z5 3 0},(!z1.fst.snd.snd.fst==(0:UInt64),())),())⟩))
theorem aun (ok0:cX->Bool) (g0_0:cX->lj) (x:aaV) (Q:n9.Y->Prop):wpf te Kv (bu 0 (dq Cu 0 ok0 (KI g0_0)) ay) 1000 Try.f66 (n9.inp.inj x).tm (n9.inp.inj x).hp (fnK n9 W6 Q) (λ_ _=>False)=(aeL ok0 g0_0 (x.1.1) (x.1.2.1)).wpR Q:=by kernel_rfl
theorem aeJ (ok0:cX->Bool) (g0_0:cX->lj) (h0:∀ s:cX,ok0 s=true->∃ m e,aA (Cv) m s=some e/\(KI g0_0 s).run=some e) (pre:aaV->Bool) (F:aaV->OT n9.Y) (hF:∀ (x:aaV) oy,pre x=true->(F x).run=some oy->(aeL ok0 g0_0 (x.1.1) (x.1.2.1)).run=some oy):aa Try.prog 66 (n9.aD pre F):=
 aB ap wk Ku (f:=66) (fn:=Try.f66) (c:=al Try.f66) (by kernel_rfl) (by kernel_rfl) (by kernel_rfl) (S:=n9) (k:=0) (by kernel_rfl) (λR hR=>(aH (c:=(al Try.f66)) (by kernel_rfl) (id:=0) (by kernel_rfl) (bn ap wk Ku (sh:=Cu) hR (xs:=aeI) (aG (by kernel_rfl) (by kernel_rfl) hR) aV af (n:=1000) (T:=Cv) (λs Q=>aqa s Q) (ok:=ok0) (f:=KI g0_0) h0) af)) (n:=1000) (sel:=W6) (λv o h=>by cases h;rfl) (pre:=pre) (F:=F) (T:=λx=>aeL ok0 g0_0 (x.1.1) (x.1.2.1)) (λx Q=>aun ok0 g0_0 x Q) hF
def Hm (a b:List UInt64) (k:Nat) (s:List UInt64×UInt64):List UInt64×UInt64:=(s.1.set k (mN (a.getD k 0) (b.getD k 0) s.2),NI (a.getD k 0) (b.getD k 0) s.2)
def W8 (s:cX):Bool:=decide (s.1.2.2.2.2.1=0/\s.1.2.2.2.2.2.1=0/\s.2.1.length=4/\s.2.2.1.length=4/\s.2.2.2.2.1= [0,0,0,0])
def aeK (s:cX):lj:=(((),(),(upto (Hm s.2.1 s.2.2.1) ([0,0,0,0],0) 4).2,()),(s.2.2.2.1,(upto (Hm s.2.1 s.2.2.1) ([0,0,0,0],0) 4).1,()))
theorem aqc:∀ s:cX,W8 s=true->∃ m e,aA Cv m s=some e/\(KI aeK s).run=some e:=by
 rintro ⟨⟨⟨⟩,⟨⟩,⟨⟩,⟨⟩,c,i,⟨⟩⟩,⟨c0,c1,c2,c3,⟨⟩⟩⟩ h
 have h':=of_decide_eq_true h
 dsimp only at h'
 obtain ⟨rfl,rfl,h0,h1,rfl⟩:=h'
 have:=(bw (T:=Cv) (λk s=>((((),(),(),(),s.2,(k:Int),()),(c0,c1,c2,s.1,())):cX)) (Hm c0 c1)
  (λs=>(⟨(.exit 0,tT),(((),(),s.2,()),(c2,s.1,()))⟩:aJ)) 4 ([0,0,0,0],0) (λ_ s=>s.1.length=4/\s.2.toNat<=1) ⟨rfl,by decide⟩ (λk s hk hs=>⟨?_,?_⟩) (λs hs=> ?_)).1
 ·obtain ⟨m,hm⟩:=this
  exact ⟨m,_,hm,rfl⟩
 ·refine (OT.au (decide_eq_true (by dsimp only;omega))).trans ((ah ?_).trans ?_)
  ·simp only [Int.toNat_natCast,Nat.add_zero,h0,h1,hs.1,List.all_cons,List.all_nil,Bool.and_true,Bool.and_eq_true]
   exact ⟨bc (by omega),decide_eq_true (by omega),bc (by omega),decide_eq_true (by omega),decide_eq_true hs.2,bc (by omega),decide_eq_true (by omega),aS (by omega)⟩
  ·simp only [OT.eC,Int.toNat_natCast,Nat.add_zero]
   rfl
 ·exact ⟨by simp only [Hm,List.length_set];exact hs.1,xL⟩
 ·exact OT.aw (decide_eq_false (by dsimp only;omega))
def W7 (_:aaV):Bool:=true
def aeM (x:aaV):OT n9.Y:=.ok ⟨SH,(((fo x.1.1 x.1.2.1).1,((fo x.1.1 x.1.2.1).2,())),())⟩
theorem aqb:aa Try.prog 66 (n9.aD W7 aeM):=aeJ W8 aeK aqc _ _ λx oy hp ho=>by
 rw [<-ho]
 clear ho
 obtain ⟨⟨a,b,⟨⟩⟩,⟨⟩⟩:=x
 obtain ⟨_,hw⟩:=H7 a b
 refine (ah ?_).trans ?_
 ·simp only [List.all_cons,List.all_nil,Bool.and_true,Bool.and_eq_true]
  exact ⟨rfl,rfl,rfl,rfl⟩
 ·simp only [aeM,hw]
  rfl
def Ct:bI:=(n9.aD W7 aeM)
theorem aaU:aa Try.prog 66 Ct:=aqb
theorem aaT:aC Ct:=ax
def RR:Env:=av 66 Ct Kv
theorem FI:aI Try.prog RR:=ag aaU wk
theorem FJ:aq RR:=ab aaT FN
theorem aej:aP Try.prog te RR:=aF follows ap FI FJ
def jn:ao:=⟨[.val true .elem,.val true .elem],[],true,0,false⟩
abbrev H6:Type:=((ac)×(ac)×Unit)×(Unit)
def KM:ar:=⟨[.val false .bool],[],false⟩
def NR:SV->Option ar:=λ_=>some KM
def SN (a0:ac) (a1:ac):OT jn.Y:=
 (.ok ⟨KM,(((fo a0 a1).snd,()),())⟩)
theorem aqi (x:H6) (Q:jn.Y->Prop):wpf te RR ay 1000 Try.f55 (jn.inp.inj x).tm (jn.inp.inj x).hp (fnK jn NR Q) (λ_ _=>False)=(SN (x.1.1) (x.1.2.1)).wpR Q:=by kernel_rfl
theorem aa3 (pre:H6->Bool) (F:H6->OT jn.Y) (hF:∀ (x:H6) oy,pre x=true->(F x).run=some oy->(SN (x.1.1) (x.1.2.1)).run=some oy):aa Try.prog 55 (jn.aD pre F):=
 aB ap FI aej (f:=55) (fn:=Try.f55) (c:=al Try.f55) (by kernel_rfl) (by kernel_rfl) (by kernel_rfl) (S:=jn) (k:=0) (by kernel_rfl) (λR hR=>af) (n:=1000) (sel:=NR) (λv o h=>by cases h;rfl) (pre:=pre) (F:=F) (T:=λx=>SN (x.1.1) (x.1.2.1)) (λx Q=>aqi x Q) hF
def NS (_:H6):Bool:=true
def aeX (x:H6):OT jn.Y:=.ok ⟨KM,((Nat.blt x.1.1.nat x.1.2.1.nat,()),())⟩
theorem alk:aa Try.prog 55 (jn.aD NS aeX):=aa3 _ _ λx oy _ ho=>ho
def xm:bI:=(jn.aD NS aeX)
theorem SM:aa Try.prog 55 xm:=alk
theorem SL:aC xm:=ax
def zm:Env:=av 55 xm RR
theorem rH:aI Try.prog zm:=ag SM FI
theorem AV:aq zm:=ab SL FJ
theorem FM:aP Try.prog te zm:=aF follows ap rH AV
end Go.Proofs.Ythgjhpbapddpnaa

namespace Go.Proofs.Ythgjhpbapddpnaa
open Sx Go
theorem BW (x b:UInt64) (hb:b.toNat<=1):2*x.toNat+b.toNat=(bL x 1|||b).toNat+18446744073709551616*(aT x 63).toNat:=by
 have hx:=x.toNat_lt
 have e1:(bL x 1).toNat=2^1*(x.toNat%9223372036854775808):=by
  have e:(bL x 1).toNat=x.toNat*2^1%2^64:=jG x 1 (by omega)
  rw [e]
  omega
 have e2:(aT x 63).toNat=x.toNat/2^63:=eI x 63 (by omega)
 have e3:=Nat.two_pow_add_eq_or_of_lt (i:=1) (b:=b.toNat) (by omega) (x.toNat%9223372036854775808)
 rw [UInt64.toNat_or,e1,<-e3,e2]
 omega
theorem Ld (x:UInt64):(aT x 63).toNat<=1:=by
 have hx:=x.toNat_lt
 have e2:(aT x 63).toNat=x.toNat/2^63:=eI x 63 (by omega)
 rw [e2]
 omega
def cA (a:ac) (b:UInt64):ac×UInt64:=(⟨bL a.w0 1|||b,bL a.w1 1|||aT a.w0 63,bL a.w2 1|||aT a.w1 63,bL a.w3 1|||aT a.w2 63⟩,aT a.w3 63)
theorem abK (a:ac) (b:UInt64) (hb:b.toNat<=1):2*a.nat+b.toNat=(cA a b).1.nat+115792089237316195423570985008687907853269984665640564039457584007913129639936*(cA a b).2.toNat:=by
 have h0:=BW a.w0 b hb
 have h1:=BW a.w1 _ (Ld a.w0)
 have h2:=BW a.w2 _ (Ld a.w1)
 have h3:=BW a.w3 _ (Ld a.w2)
 unfold cA Sx.ac.nat
 dsimp only
 omega
def aha (m r:ac) (b:UInt64):ac:=cond (!((cA r b).2==0)) (fo (cA r b).1 m).1 (cond (!(fo (cA r b).1 m).2) (fo (cA r b).1 m).1 (cA r b).1)
theorem Zn {n m:Nat} (h1:m<=n) (h2:n<2*m):n-m=n%m:=by
 rw [Nat.mod_eq_sub_mod h1,Nat.mod_eq_of_lt (by omega)]
theorem am1 {m r:ac} {b:UInt64} (hb:b.toNat<=1) (hr:r.nat<m.nat):(aha m r b).nat=(2*r.nat+b.toNat)%m.nat:=by
 have h:=abK r b hb
 have hm:=gO m
 have hs:=gO (cA r b).1
 have h2:(cA r b).2.toNat<=1:=Ld _
 have hw:(fo (cA r b).1 m).1.nat=((cA r b).1.nat+115792089237316195423570985008687907853269984665640564039457584007913129639936-m.nat)%115792089237316195423570985008687907853269984665640564039457584007913129639936:=by
  unfold fo
  exact LK _
 unfold aha
 cases ho:(cA r b).2==0
 ·have ho:(cA r b).2.toNat=1:=by
   have:(cA r b).2.toNat≠0:=λe=>by
    have e':(cA r b).2=0:=UInt64.toNat_inj.1 e
    rw [e'] at ho
    cases ho
   omega
  show (fo (cA r b).1 m).1.nat=_
  rw [hw,<-Zn (n:=2*r.nat+b.toNat) (by omega) (by omega),Nat.mod_eq_of_lt (by omega)]
  omega
 ·have ho:(cA r b).2.toNat=0:=by
   rw [beq_iff_eq] at ho
   rw [ho]
   rfl
  have e:2*r.nat+b.toNat=(cA r b).1.nat:=by omega
  cases hu:(fo (cA r b).1 m).2
  ·have hu':m.nat<=(cA r b).1.nat:=by
    rw [Xe] at hu
    exact Nat.le_of_not_lt λh'=>by rw [(Nat.blt_eq ..).mpr h'] at hu;cases hu
   show (fo (cA r b).1 m).1.nat=_
   rw [kC hu',e,Zn hu' (by omega)]
  ·have hu':(cA r b).1.nat<m.nat:=by
    rw [Xe] at hu
    exact (Nat.blt_eq ..).mp hu
   show (cA r b).1.nat=_
   rw [e,Nat.mod_eq_of_lt hu']
def HN (a:ac) (i:Nat):UInt64:=aT ((lst a).getD (i/64) 0) ((i%64:Nat):Int)&&&1
theorem aoN (a:ac) {i:Nat} (hi:i<256):(HN a i).toNat=a.nat/2^i%2:=by
 have e:∀ x:UInt64,(x&&&1).toNat=x.toNat%2:=λx=>by
  rw [UInt64.toNat_and]
  exact Nat.and_two_pow_sub_one_eq_mod x.toNat 1
 unfold HN
 rw [e,eI _ _ (by omega),aaG (by omega) (by omega),show 64*(i/64)+i%64=i by omega]
def alb (m a r:ac):Nat->ac:=upto (λk r=>aha m r (HN a (255-k))) r
theorem Lf {m a r:ac} (hr:r.nat<m.nat):∀ k,k<=256->(alb m a r k).nat=(r.nat*2^k+a.nat/2^(256-k))%m.nat/\(alb m a r k).nat<m.nat
 |0,_=>by
  have h:=gO a
  refine ⟨?_,hr⟩
  show r.nat=_
  rw [Nat.pow_zero,Nat.mul_one,Nat.div_eq_of_lt h,Nat.add_zero,Nat.mod_eq_of_lt hr]
 |k+1,hk=>by
  obtain ⟨h1,h2⟩:=Lf (a:=a) hr k (by omega)
  have hb:=aoN a (i:=255-k) (by omega)
  have hb1:(HN a (255-k)).toNat<=1:=by omega
  have h3:=am1 hb1 h2
  have e:(alb m a r (k+1)).nat=(2*(alb m a r k).nat+(HN a (255-k)).toNat)%m.nat:=h3
  have e2:a.nat/2^(255-k)=2*(a.nat/2^(256-k))+(HN a (255-k)).toNat:=by
   rw [hb,show 256-k=255-k+1 by omega,Nat.pow_succ,<-Nat.div_div_eq_div_mul]
   omega
  refine ⟨?_,?_⟩
  ·rw [e,h1,show 256-(k+1)=255-k by omega,e2,Nat.pow_succ]
   rw [<-Nat.mod_add_mod,Nat.mul_mod_mod,Nat.mod_add_mod]
   congr 1
   rw [Nat.mul_add,<-Nat.mul_assoc,Nat.mul_comm (2^k) 2,<-Nat.mul_assoc,Nat.mul_comm r.nat 2,Nat.add_assoc]
  ·rw [e]
   exact Nat.mod_lt _ (by omega)
def aua (lo hi m:ac):ac:=ofN ((lo.nat+115792089237316195423570985008687907853269984665640564039457584007913129639936*hi.nat)%m.nat)
theorem am2 {m lo hi:ac} (hm:0<m.nat):alb m lo (alb m hi ⟨0,0,0,0⟩ 256) 256=aua lo hi m:=by
 have h0:(⟨0,0,0,0⟩:ac).nat<m.nat:=hm
 obtain ⟨h1,h2⟩:=Lf (a:=hi) h0 256 (Nat.le_refl _)
 obtain ⟨h3,h4⟩:=Lf (a:=lo) h2 256 (Nat.le_refl _)
 have hl:=gO m
 refine jZ ?_
 unfold aua
 rw [h3,h1,iJ (Nat.lt_trans (Nat.mod_lt _ hm) hl),show 256-256=0 from rfl,Nat.pow_zero,Nat.div_one,Nat.div_one,show (⟨0,0,0,0⟩:ac).nat=0 from rfl,Nat.zero_mul,Nat.zero_add,<-Nat.mod_add_mod,Nat.mod_mul_mod,Nat.mod_add_mod,Nat.mul_comm,Nat.add_comm]
end Go.Proofs.Ythgjhpbapddpnaa

namespace Go.Proofs.Ythgjhpbapddpnaa
open Sx Go
set_option maxRecDepth 100000
def fT:ao:=⟨[.val true .elem,.val false .u64],[],true,0,false⟩
abbrev xh:Type:=((ac)×(UInt64)×Unit)×(Unit)
def oa:Shape:=⟨25,[(1,.val false .u64),(2,.ptr 0 0 0),(4,.ptr 1 0 0),(7,.val false .int)],[(0,.row .u64),(1,.row .u64)],0,true⟩
abbrev bU:Type:=((UInt64)×(Unit)×(Unit)×(Int)×Unit)×((List (UInt64))×(List (UInt64))×Unit)
def mE:Shape:=⟨25,[(1,.val false .u64),(2,.ptr 0 0 0),(4,.ptr 1 0 0)],[(0,.row .u64),(1,.row .u64)],0,true⟩
abbrev ik:Type:=((UInt64)×(Unit)×(Unit)×Unit)×((List (UInt64))×(List (UInt64))×Unit)
def NL:SE->Option Shape:=kv [(0,mE)] none
def aeQ (a1:UInt64) (a7:Int) (c0:List (UInt64)) (c1:List (UInt64)):OT (Sum bU aJ):=
 let z0:Bool:=inB a7 4
 let z1:Bool:=decide (Int.toNat a7+0<List.length c0)
 let z2:UInt64:=List.getD c0 (Int.toNat a7+0) (0:UInt64)
 (.br (decide (a7<(4:Int)))
 (gd [z0,z1,z0,z1,z0,z1,inR (a7+(1:Int))] (.ok (.inl ((aT z2 (63:Int),((),((),(a7+(1:Int),())))),(List.set c0 (Int.toNat a7+0) (bL z2 (1:Int)|||a1),(c1,()))))))
 (.ok (.inr ⟨(.exit 0,mE),((a1,((),((),()))),(c0,(c1,())))⟩)))
def ob (s:bU):OT (Sum bU aJ):=aeQ (s.1.1) (s.1.2.2.2.1) (s.2.1) (s.2.2.1)
theorem aeN (s:bU) (Q:Sum bU aJ->Prop):wps te zm ay 1000 (bk (al Try.f133) 0) (oa.inj s) (cO oa NL (Q:Sum oa.T aJ->Prop))=(ob s).wpR Q:=by kernel_rfl
def tU (g0_0:bU->ik) (s:bU):OT aJ:=(.ok ⟨(.exit 0,mE),g0_0 s⟩)
def Cw:ar:=⟨[.val true .elem,.val false .u64],[],false⟩
def H2:SV->Option ar:=λ_=>some Cw
def KJ (ok0:bU->Bool) (g0_0:bU->ik) (a0:ac) (a1:UInt64):OT fT.Y:=
 let z0:(UInt64×PUnit×PUnit×Int×PUnit)×List UInt64×List UInt64×PUnit:=((a1,(),(),(0:Int),()),[a0.w0,a0.w1,a0.w2,a0.w3],[(0:UInt64),(0:UInt64),(0:UInt64),(0:UInt64)],())
 let z1:(UInt64×PUnit×PUnit×PUnit)×List UInt64×List UInt64×PUnit:=g0_0 z0
 let z2:=z1.snd
 let z3:=z2.fst
 let z4:=z2.snd.fst
 let z5:List UInt64:=lay z4 z3 4 (0:UInt64)
 (gd [ok0 z0,decide (4<=List.length z3),decide ((4/1:Nat)+0<=List.length z4),decide (4<=List.length z5)] (.ok ⟨Cw,(({w0:=List.getD z5 0 0,w1:=List.getD z5 1 0,w2:=List.getD z5 2 0,w3:=List.getD z5 3 0},(z1.fst.fst,())),())⟩))
theorem alg (ok0:bU->Bool) (g0_0:bU->ik) (x:xh) (Q:fT.Y->Prop):wpf te zm (bu 0 (dq oa 0 ok0 (tU g0_0)) ay) 1000 Try.f133 (fT.inp.inj x).tm (fT.inp.inj x).hp (fnK fT H2 Q) (λ_ _=>False)=(KJ ok0 g0_0 (x.1.1) (x.1.2.1)).wpR Q:=by kernel_rfl
theorem SI (ok0:bU->Bool) (g0_0:bU->ik) (h0:∀ s:bU,ok0 s=true->∃ m e,aA (ob) m s=some e/\(tU g0_0 s).run=some e) (pre:xh->Bool) (F:xh->OT fT.Y) (hF:∀ (x:xh) oy,pre x=true->(F x).run=some oy->(KJ ok0 g0_0 (x.1.1) (x.1.2.1)).run=some oy):aa Try.prog 133 (fT.aD pre F):=
 aB ap rH FM (f:=133) (fn:=Try.f133) (c:=al Try.f133) (by kernel_rfl) (by kernel_rfl) (by kernel_rfl) (S:=fT) (k:=0) (by kernel_rfl) (λR hR=>(aH (c:=(al Try.f133)) (by kernel_rfl) (id:=0) (by kernel_rfl) (bn ap rH FM (sh:=oa) hR (xs:=NL) (aG (by kernel_rfl) (by kernel_rfl) hR) aV af (n:=1000) (T:=ob) (λs Q=>aeN s Q) (ok:=ok0) (f:=tU g0_0) h0) af)) (n:=1000) (sel:=H2) (λv o h=>by cases h;rfl) (pre:=pre) (F:=F) (T:=λx=>KJ ok0 g0_0 (x.1.1) (x.1.2.1)) (λx Q=>alg ok0 g0_0 x Q) hF
def awh (k:Nat) (s:List UInt64×UInt64):List UInt64×UInt64:=(s.1.set k (bL (s.1.getD k 0) 1|||s.2),aT (s.1.getD k 0) 63)
def H4 (s:bU):Bool:=decide (s.1.2.2.2.1=0/\s.2.1.length=4)
def NO (s:bU):ik:=(((upto awh (s.2.1,s.1.1) 4).2,(),(),()),((upto awh (s.2.1,s.1.1) 4).1,s.2.2.1,()))
theorem aeP:∀ s:bU,H4 s=true->∃ m e,aA ob m s=some e/\(tU NO s).run=some e:=by
 rintro ⟨⟨b,⟨⟩,⟨⟩,i,⟨⟩⟩,⟨a,r,⟨⟩⟩⟩ h
 have h':=of_decide_eq_true h
 dsimp only at h'
 obtain ⟨rfl,hl⟩:=h'
 have:=(bw (T:=ob) (λk s=>(((s.2,(),(),(k:Int),()),(s.1,r,())):bU)) awh
  (λs=>(⟨(.exit 0,mE),((s.2,(),(),()),(s.1,r,()))⟩:aJ)) 4 (a,b) (λ_ s=>s.1.length=4) hl (λk s hk hs=>⟨?_,(List.length_set ..).trans hs⟩) (λs hs=> ?_)).1
 ·obtain ⟨m,hm⟩:=this
  exact ⟨m,_,hm,rfl⟩
 ·refine (OT.au (decide_eq_true (by dsimp only;omega))).trans ((ah ?_).trans ?_)
  ·simp only [Int.toNat_natCast,Nat.add_zero,hs,List.all_cons,List.all_nil,Bool.and_true,Bool.and_eq_true]
   exact ⟨bc (by omega),decide_eq_true (by omega),bc (by omega),decide_eq_true (by omega),bc (by omega),decide_eq_true (by omega),aS (by omega)⟩
  ·simp only [OT.eC,Int.toNat_natCast,Nat.add_zero]
   rfl
 ·exact OT.aw (decide_eq_false (by dsimp only;omega))
def H3 (_:xh):Bool:=true
def W9 (x:xh):OT fT.Y:=.ok ⟨Cw,(((cA x.1.1 x.1.2.1).1,((cA x.1.1 x.1.2.1).2,())),())⟩
theorem aeO:aa Try.prog 133 (fT.aD H3 W9):=SI H4 NO aeP _ _ λx oy hp ho=>by
 rw [<-ho]
 clear ho
 obtain ⟨⟨a,b,⟨⟩⟩,⟨⟩⟩:=x
 refine (ah ?_).trans rfl
 simp only [List.all_cons,List.all_nil,Bool.and_true,Bool.and_eq_true]
 exact ⟨rfl,rfl,rfl,rfl⟩
def so:bI:=(fT.aD H3 W9)
theorem NN:aa Try.prog 133 so:=aeO
theorem NM:aC so:=ax
def rG:Env:=av 133 so zm
theorem nL:aI Try.prog rG:=ag NN rH
theorem wj:aq rG:=ab NM AV
theorem AU:aP Try.prog te rG:=aF follows ap nL wj
def nV:ao:=⟨[.val true .elem,.val true .elem,.val true .elem],[],true,0,false⟩
abbrev aaY:Type:=((ac)×(ac)×(ac)×Unit)×(Unit)
def Cz:Shape:=⟨57,[(5,.ptr 0 0 0),(6,.ptr 1 0 0),(8,.ptr 2 0 0),(10,.ptr 3 0 0),(11,.val false .int),(21,.val true (.arr 2 .elem)),(22,.val false .int)],[(0,.row .u64),(1,.row .u64),(2,.row .u64),(3,.row .u64)],0,true⟩
abbrev cD:Type:=((Unit)×(Unit)×(Unit)×(Unit)×(Int)×(List (ac))×(Int)×Unit)×((List (UInt64))×(List (UInt64))×(List (UInt64))×(List (UInt64))×Unit)
def tV:Shape:=⟨57,[(5,.ptr 0 0 0),(6,.ptr 1 0 0),(8,.ptr 2 0 0),(21,.val true (.arr 2 .elem)),(22,.val false .int)],[(0,.row .u64),(1,.row .u64),(2,.row .u64)],0,true⟩
abbrev jb:Type:=((Unit)×(Unit)×(Unit)×(List (ac))×(Int)×Unit)×((List (UInt64))×(List (UInt64))×(List (UInt64))×Unit)
def aeR:SE->Option Shape:=kv [(2,tV)] none
def SK (a11:Int) (a21:List (ac)) (a22:Int) (c0:List (UInt64)) (c1:List (UInt64)) (c2:List (UInt64)) (c3:List (UInt64)):OT (Sum cD aJ):=
 let z0:Nat:=List.length c2
 let z1:Int:=Int.tdiv a11 (64:Int)
 let z2:Int:=Int.tmod a11 (64:Int)
 let z3:ac×UInt64:=cA {w0:=List.getD c2 0 0,w1:=List.getD c2 1 0,w2:=List.getD c2 2 0,w3:=List.getD c2 3 0} (aT (List.getD c3 (Int.toNat z1+0) (0:UInt64)) z2&&&(1:UInt64))
 let z4:=z3.fst
 let z5:List UInt64:=List.set (List.set (List.set (List.set c2 0 z4.w0) 1 z4.w1) 2 z4.w2) 3 z4.w3
 let z6:Nat:=List.length z5
 let z7:Bool:=decide ((4/1:Nat)+0<=z6)
 let z8:Bool:=inR (a11-(1:Int))
 let z9:ac:= {w0:=0,w1:=0,w2:=0,w3:=0}
 let z10:ac×Bool:=fo {w0:=List.getD z5 0 0,w1:=List.getD z5 1 0,w2:=List.getD z5 2 0,w3:=List.getD z5 3 0} {w0:=List.getD c0 0 0,w1:=List.getD c0 1 0,w2:=List.getD c0 2 0,w3:=List.getD c0 3 0}
 let z11:=z10.fst
 let z12:List UInt64:=List.set (List.set (List.set (List.set z5 0 z11.w0) 1 z11.w1) 2 z11.w2) 3 z11.w3
 (.br (decide ((0:Int)<=a11))
 (gd [decide (4<=z0),true&&inR z1,inB z1 4,decide (Int.toNat z1+0<List.length c3),decide ((0:Int)<=z2),decide ((4/1:Nat)+0<=z0),decide (4<=z6),decide (4<=List.length c0)] (.br (!z3.snd==(0:UInt64))
  (gd [z7,z8] (.ok (.inl (((),((),((),((),(a11-(1:Int),([List.getD a21 0 z9,List.getD a21 1 z9],(a22,()))))))),(c0,(c1,(z12,(c3,()))))))))
  (.br (!z10.snd)
   (gd [z7,z8] (.ok (.inl (((),((),((),((),(a11-(1:Int),([List.getD a21 0 z9,List.getD a21 1 z9],(a22,()))))))),(c0,(c1,(z12,(c3,()))))))))
   (gd [z8] (.ok (.inl (((),((),((),((),(a11-(1:Int),([List.getD a21 0 z9,List.getD a21 1 z9],(a22,()))))))),(c0,(c1,(z5,(c3,())))))))))))
 (.ok (.inr ⟨(.exit 2,tV),(((),((),((),([List.getD a21 0 z9,List.getD a21 1 z9],(a22,()))))),(c0,(c1,(c2,()))))⟩)))
def CA (s:cD):OT (Sum cD aJ):=SK (s.1.2.2.2.2.1) (s.1.2.2.2.2.2.1) (s.1.2.2.2.2.2.2.1) (s.2.1) (s.2.2.1) (s.2.2.2.1) (s.2.2.2.2.1)
theorem aqf (s:cD) (Q:Sum cD aJ->Prop):wps te rG ay 1000 (bk (al Try.f128) 2) (Cz.inj s) (cO Cz aeR (Q:Sum Cz.T aJ->Prop))=(CA s).wpR Q:=by kernel_rfl
def KL (g2_2:cD->jb) (s:cD):OT aJ:=(.ok ⟨(.exit 2,tV),(((g2_2 s).1.1,((g2_2 s).1.2.1,((g2_2 s).1.2.2.1,(s.1.2.2.2.2.2.1,(s.1.2.2.2.2.2.2.1,()))))),(g2_2 s).2)⟩)
def xi:ar:=⟨[.val true .elem,.val false .int],[],false⟩
def Xa:SV->Option ar:=λ_=>some xi
def H5 (ok2:cD->Bool) (g2_2:cD->jb) (a0:ac) (a1:ac) (a2:ac):OT nV.Y:=
 let z0:(PUnit×PUnit×PUnit×PUnit×Int×List ac×Int×PUnit)×List UInt64×List UInt64×List UInt64×List UInt64×PUnit:=(((),(),(),(),(255:Int),[a1,a0],(0:Int),()),[a2.w0,a2.w1,a2.w2,a2.w3],[(0:UInt64),(0:UInt64),(0:UInt64),(0:UInt64)],[(0:UInt64),(0:UInt64),(0:UInt64),(0:UInt64)],[a1.w0,a1.w1,a1.w2,a1.w3],())
 let z1:=(g2_2 z0).snd
 let z2:=z1.snd
 let z3:(PUnit×PUnit×PUnit×PUnit×Int×List ac×Int×PUnit)×List UInt64×List UInt64×List UInt64×List UInt64×PUnit:=(((),(),(),(),(255:Int),[a1,a0],(0:Int)+(1:Int),()),z1.fst,z2.fst,z2.snd.fst,[a0.w0,a0.w1,a0.w2,a0.w3],())
 let z4:=(g2_2 z3).snd.snd
 let z5:=z4.snd.fst
 let z6:=z4.fst
 let z7:List UInt64:=lay z6 z5 4 (0:UInt64)
 (.br (a2.w0==(0:UInt64)&&(a2.w1==(0:UInt64)&&(a2.w2==(0:UInt64)&&(a2.w3==(0:UInt64)&&true))))
 (.ok ⟨xi,(({w0:=0,w1:=0,w2:=0,w3:=0},((10:Int),())),())⟩)
 (gd [ok2 z0,ok2 z3,decide (4<=List.length z5),decide ((4/1:Nat)+0<=List.length z6),decide (4<=List.length z7)] (.ok ⟨xi,(({w0:=List.getD z7 0 0,w1:=List.getD z7 1 0,w2:=List.getD z7 2 0,w3:=List.getD z7 3 0},((0:Int),())),())⟩)))
theorem auo (ok2:cD->Bool) (g2_2:cD->jb) (x:aaY) (Q:nV.Y->Prop):wpf te rG (bu 2 (dq Cz 2 ok2 (KL g2_2)) ay) 1000 Try.f128 (nV.inp.inj x).tm (nV.inp.inj x).hp (fnK nV Xa Q) (λ_ _=>False)=(H5 ok2 g2_2 (x.1.1) (x.1.2.1) (x.1.2.2.1)).wpR Q:=by kernel_rfl
theorem aeS (ok2:cD->Bool) (g2_2:cD->jb) (h2:∀ s:cD,ok2 s=true->∃ m e,aA (CA) m s=some e/\(KL g2_2 s).run=some e) (pre:aaY->Bool) (F:aaY->OT nV.Y) (hF:∀ (x:aaY) oy,pre x=true->(F x).run=some oy->(H5 ok2 g2_2 (x.1.1) (x.1.2.1) (x.1.2.2.1)).run=some oy):aa Try.prog 128 (nV.aD pre F):=
 aB ap nL AU (f:=128) (fn:=Try.f128) (c:=al Try.f128) (by kernel_rfl) (by kernel_rfl) (by kernel_rfl) (S:=nV) (k:=0) (by kernel_rfl) (λR hR=>(aH (c:=(al Try.f128)) (by kernel_rfl) (id:=2) (by kernel_rfl) (bn ap nL AU (sh:=Cz) hR (xs:=aeR) (aG (by kernel_rfl) (by kernel_rfl) hR) aV af (n:=1000) (T:=CA) (λs Q=>aqf s Q) (ok:=ok2) (f:=KL g2_2) h2) af)) (n:=1000) (sel:=Xa) (λv o h=>by cases h;rfl) (pre:=pre) (F:=F) (T:=λx=>H5 ok2 g2_2 (x.1.1) (x.1.2.1) (x.1.2.2.1)) (λx Q=>auo ok2 g2_2 x Q) hF
def KK (s:cD):Bool:=decide (s.1.2.2.2.2.1=255/\s.1.2.2.2.2.2.1.length=2/\s.2.1.length=4/\s.2.2.2.1.length=4/\s.2.2.2.2.1.length=4)
def SJ (s:cD):jb:=(((),(),(),s.1.2.2.2.2.2.1,s.1.2.2.2.2.2.2.1,()),(s.2.1,s.2.2.1,lst (alb (elemOf s.2.1) (elemOf s.2.2.2.2.1) (elemOf s.2.2.2.1) 256),()))
theorem awj (i:Nat):Int.tdiv (i:Int) 64=((i/64:Nat):Int):=by rw [Int.tdiv_eq_ediv_of_nonneg (by omega)];omega
theorem awk (i:Nat):Int.tmod (i:Int) 64=((i%64:Nat):Int):=by rw [Int.tmod_eq_emod_of_nonneg (by omega)];omega
theorem aqh:∀ s:cD,KK s=true->∃ m e,aA CA m s=some e/\(KL SJ s).run=some e:=by
 rintro ⟨⟨⟨⟩,⟨⟩,⟨⟩,⟨⟩,i,arr,j,⟨⟩⟩,⟨c0,c1,c2,c3,⟨⟩⟩⟩ h
 have h':=of_decide_eq_true h
 dsimp only at h'
 obtain ⟨rfl,ha,h0,h2,h3⟩:=h'
 obtain ⟨x,y,rfl⟩:∃ x y,arr= [x,y]:=by
  match arr,ha with
  | [x,y],_=>exact ⟨x,y,rfl⟩
 obtain ⟨m,rfl⟩:∃ a,c0=lst a:=⟨elemOf c0,(aM h0).symm⟩
 obtain ⟨r,rfl⟩:∃ a,c2=lst a:=⟨elemOf c2,(aM h2).symm⟩
 obtain ⟨t,rfl⟩:∃ a,c3=lst a:=⟨elemOf c3,(aM h3).symm⟩
 have:=(bw (T:=CA) (λk r=>((((),(),(),(),(255:Int)-(k:Int),[x,y],j,()),(lst m,c1,lst r,lst t,())):cD)) (λk r=>aha m r (HN t (255-k)))
  (λr=>(⟨(.exit 2,tV),(((),(),(),[x,y],j,()),(lst m,c1,lst r,()))⟩:aJ)) 256 r (λ_ _=>True) trivial (λk r hk _=>⟨?_,trivial⟩) (λr _=> ?_)).1
 ·obtain ⟨n,hn⟩:=this
  exact ⟨n,_,hn,rfl⟩
 ·have e0:(255:Int)-(k:Int)=((255-k:Nat):Int):=by omega
  have e1:(255:Int)-((k+1:Nat):Int)=((255-k:Nat):Int)-1:=by omega
  have hb:aT ((lst t).getD ((255-k)/64) 0) (((255-k)%64:Nat):Int)&&&1=HN t (255-k):=rfl
  rw [e1,e0]
  show (SK ((255-k:Nat):Int) [x,y] j (lst m) c1 (lst r) (lst t)).run=some (.inl (((),(),(),(),((255-k:Nat):Int)-1,[x,y],j,()),(lst m,c1,lst (aha m r (HN t (255-k))),lst t,())))
  unfold SK
  simp only [awj,awk,Int.toNat_natCast,Nat.add_zero,hb]
  refine (OT.au (decide_eq_true (by omega))).trans ((ah ?_).trans ?_)
  ·simp only [List.all_cons,List.all_nil,Bool.and_true,Bool.true_and,Bool.and_eq_true]
   have hl:∀ a:ac,(lst a).length=4:=λ_=>rfl
   exact ⟨rfl,aS (by omega),bc (by omega),decide_eq_true (by rw [hl];omega),decide_eq_true (by omega),rfl,rfl,rfl⟩
  ·have hr:inR (((255-k:Nat):Int)-1)=true:=aS (by omega)
   rcases (Bool.eq_false_or_eq_true ((cA r (HN t (255-k))).2==0)).symm with g|g
   ·have e:aha m r (HN t (255-k))=(fo (cA r (HN t (255-k))).1 m).1:=by unfold aha;rw [g];rfl
    rw [e]
    exact (OT.au (b:= !((cA r (HN t (255-k))).2==0)) (by rw [g];rfl)).trans ((ah (by rw [hr];rfl)).trans rfl)
   ·refine (OT.aw (b:= !((cA r (HN t (255-k))).2==0)) (by rw [g];rfl)).trans ?_
    rcases (Bool.eq_false_or_eq_true (fo (cA r (HN t (255-k))).1 m).2).symm with u|u
    ·have e:aha m r (HN t (255-k))=(fo (cA r (HN t (255-k))).1 m).1:=by unfold aha;rw [g,u];rfl
     rw [e]
     exact (OT.au (b:= !(fo (cA r (HN t (255-k))).1 m).2) (by rw [u];rfl)).trans ((ah (by rw [hr];rfl)).trans rfl)
    ·have e:aha m r (HN t (255-k))=(cA r (HN t (255-k))).1:=by unfold aha;rw [g,u];rfl
     rw [e]
     exact (OT.aw (b:= !(fo (cA r (HN t (255-k))).1 m).2) (by rw [u];rfl)).trans ((ah (by rw [hr];rfl)).trans rfl)
 ·exact OT.aw (decide_eq_false (by dsimp only;omega))
def Xb (_:aaY):Bool:=true
def Az (m:ac):Bool:=m.w0==0&&(m.w1==0&&(m.w2==0&&(m.w3==0&&true)))
def apd (x:aaY):OT nV.Y:=.br (Az x.1.2.2.1) (.ok ⟨xi,((⟨0,0,0,0⟩,((10:Int),())),())⟩) (.ok ⟨xi,((aua x.1.1 x.1.2.1 x.1.2.2.1,((0:Int),())),())⟩)
theorem acr {m:ac} (h:Az m=false):0<m.nat:=by
 refine Nat.pos_of_ne_zero λe=> ?_
 have e2:m=⟨0,0,0,0⟩:=jZ e
 rw [e2] at h
 cases h
theorem aeT {ok2:cD->Bool} {g2:cD->jb} {a b m H R:ac} (h:Az m=false)
 (h1:ok2 (((),(),(),(),255,[b,a],0,()),(lst m,lst ⟨0,0,0,0⟩,lst ⟨0,0,0,0⟩,lst b,()))=true)
 (e1:(g2 (((),(),(),(),255,[b,a],0,()),(lst m,lst ⟨0,0,0,0⟩,lst ⟨0,0,0,0⟩,lst b,()))).2=(lst m,lst ⟨0,0,0,0⟩,lst H,()))
 (h2:ok2 (((),(),(),(),255,[b,a],0+1,()),(lst m,lst ⟨0,0,0,0⟩,lst H,lst a,()))=true)
 (e2:(g2 (((),(),(),(),255,[b,a],0+1,()),(lst m,lst ⟨0,0,0,0⟩,lst H,lst a,()))).2=(lst m,lst ⟨0,0,0,0⟩,lst R,())):
 (H5 ok2 g2 a b m).run=some ⟨xi,((R,((0:Int),())),())⟩:=by
 have l:∀ e:ac,lst e= [e.w0,e.w1,e.w2,e.w3]:=λ_=>rfl
 rw [l m,l ⟨0,0,0,0⟩] at h1 e1 h2 e2
 rw [l b] at h1 e1
 rw [l a] at h2 e2
 unfold H5
 simp only [e1,h1,e2,h2]
 exact (OT.aw h).trans ((ah rfl).trans rfl)
theorem aqg:aa Try.prog 128 (nV.aD Xb apd):=aeS KK SJ aqh _ _ λx oy hp ho=>by
 rw [<-ho]
 clear ho
 obtain ⟨⟨a,b,m,⟨⟩⟩,⟨⟩⟩:=x
 show (H5 KK SJ a b m).run=(OT.br (Az m) _ _:OT nV.Y).run
 rcases (Bool.eq_false_or_eq_true (Az m)).symm with h|h
 ·refine Eq.trans (aeT (H:=alb m b ⟨0,0,0,0⟩ 256) (R:=alb m a (alb m b ⟨0,0,0,0⟩ 256) 256) h rfl rfl rfl rfl) ?_
  rw [am2 (acr h)]
  rw [h]
  rfl
 ·exact (OT.au h).trans (OT.au (b:=Az m) h).symm
def Cy:bI:=(nV.aD Xb apd)
theorem aaX:aa Try.prog 128 Cy:=aqg
theorem aaW:aC Cy:=ax
def RS:Env:=av 128 Cy rG
theorem FK:aI Try.prog RS:=ag aaX nL
theorem FL:aq RS:=ab aaW wj
theorem aek:aP Try.prog te RS:=aF follows ap FK FL
def Ey:ao:=⟨[.val false .int],[],true,0,false⟩
abbrev auh:Type:=((Int)×Unit)×(Unit)
def AG:ar:=⟨[.val true (.prod .elem (.prod .int (.prod .u64 (.prod .u64 .elem)))),.val false .int],[],false⟩
def aja:SV->Option ar:=λ_=>some AG
def atn (a0:Int):OT Ey.Y:=
 let z0:ac:= {w0:=0,w1:=0,w2:=0,w3:=0}
 let z1:UInt64×ac:=((0:UInt64),z0)
 (.br (a0==(0:Int))
 (.ok ⟨AG,((({w0:=16513537,w1:=0,w2:=0,w3:=0},(9:Int),(16513537:UInt64),z1),((0:Int),())),())⟩)
 (.br (a0==(1:Int))
  (.ok ⟨AG,((({w0:=16521217,w1:=0,w2:=0,w3:=0},(11:Int),(16521217:UInt64),z1),((0:Int),())),())⟩)
  (.br (a0==(2:Int))
   (.ok ⟨AG,((({w0:=11037532056220336129,w1:=2469829653914515739,w2:=0,w3:=4611686018427387904},(32:Int),(0:UInt64),(11037532056220336127:UInt64),{w0:=10122100416058490895,w1:=15551789045973377255,w2:=8617542898466512152,w3:=679271340751763220}),((0:Int),())),())⟩)
   (.br (a0==(3:Int))
    (.ok ⟨AG,((({w0:=10108024940646105089,w1:=2469829653919213789,w2:=0,w3:=4611686018427387904},(32:Int),(0:UInt64),(10108024940646105087:UInt64),{w0:=18200867980676431887,w1:=7474641938123724515,w2:=9200329640471491984,w3:=679271340771891881}),((0:Int),())),())⟩)
    (.ok ⟨AG,(((z0,(0:Int),(0:UInt64),z1),((20:Int),())),())⟩)))))
theorem aws (x:auh) (Q:Ey.Y->Prop):wpf te RS ay 1000 Try.f63 (Ey.inp.inj x).tm (Ey.inp.inj x).hp (fnK Ey aja Q) (λ_ _=>False)=(atn (x.1.1)).wpR Q:=by kernel_rfl
theorem aoe (pre:auh->Bool) (F:auh->OT Ey.Y) (hF:∀ (x:auh) oy,pre x=true->(F x).run=some oy->(atn (x.1.1)).run=some oy):aa Try.prog 63 (Ey.aD pre F):=
 aB ap FK aek (f:=63) (fn:=Try.f63) (c:=al Try.f63) (by kernel_rfl) (by kernel_rfl) (by kernel_rfl) (S:=Ey) (k:=0) (by kernel_rfl) (λR hR=>af) (n:=1000) (sel:=aja) (λv o h=>by cases h;rfl) (pre:=pre) (F:=F) (T:=λx=>atn (x.1.1)) (λx Q=>aws x Q) hF
abbrev HT:Type:=ac×Int×UInt64×UInt64×ac
def avi:HT:=(⟨0,0,0,0⟩,0,0,0,⟨0,0,0,0⟩)
def aL:Nat->HT
 |0=>(⟨16513537,0,0,0⟩,9,16513537,0,⟨0,0,0,0⟩)
 |1=>(⟨16521217,0,0,0⟩,11,16521217,0,⟨0,0,0,0⟩)
 |2=>(⟨11037532056220336129,2469829653914515739,0,4611686018427387904⟩,32,0,11037532056220336127,⟨10122100416058490895,15551789045973377255,8617542898466512152,679271340751763220⟩)
 |3=>(⟨10108024940646105089,2469829653919213789,0,4611686018427387904⟩,32,0,10108024940646105087,⟨18200867980676431887,7474641938123724515,9200329640471491984,679271340771891881⟩)
 |_=>avi
def ak (s:Int):Bool:=decide (0<=s)&&decide (s<4)
theorem bD {s:Int} (h:ak s=true):s=0\/s=1\/s=2\/s=3:=by
 simp only [ak,Bool.and_eq_true,decide_eq_true_eq] at h
 omega
theorem qw {s:Int} (h:ak s=false):(s==0)=false/\(s==1)=false/\(s==2)=false/\(s==3)=false:=by
 have hn:∀ k:Int,0<=k->k<4->(s==k)=false:=λk h0 h1=>by
  cases hb:s==k
  ·rfl
  ·have:s=k:=by simpa using hb
   subst this
   simp only [ak,decide_eq_true h0,decide_eq_true h1,Bool.and_self] at h
   cases h
 exact ⟨hn 0 (by decide) (by decide),hn 1 (by decide) (by decide),hn 2 (by decide) (by decide),hn 3 (by decide) (by decide)⟩
def ajb (_:auh):Bool:=true
def avD (x:auh):OT Ey.Y:=.br (ak x.1.1) (.ok ⟨AG,((aL x.1.1.toNat,((0:Int),())),())⟩) (.ok ⟨AG,((avi,((20:Int),())),())⟩)
theorem avC:aa Try.prog 63 (Ey.aD ajb avD):=aoe _ _ λx oy _ ho=>by
 rw [<-ho]
 clear ho
 obtain ⟨⟨s,⟨⟩⟩,⟨⟩⟩:=x
 cases hs:ak s
 ·obtain ⟨h0,h1,h2,h3⟩:=qw hs
  exact (OT.aw h0).trans ((OT.aw h1).trans ((OT.aw h2).trans ((OT.aw h3).trans (OT.aw (b:=ak s) hs).symm)))
 ·rcases bD hs with h|h|h|h
  all_goals
   have h:s=_:=h
   subst h
   rfl
def Mn:bI:=(Ey.aD ajb avD)
theorem ajc:aa Try.prog 63 Mn:=avC
theorem ai9:aC Mn:=ax
def ak5:Env:=av 63 Mn RS
theorem Nz:aI Try.prog ak5:=ag ajc FK
theorem Kx:aq ak5:=ab ai9 FL
theorem ak4:aP Try.prog te ak5:=aF follows ap Nz Kx
def ph:ao:=⟨[.val false .int],[],true,0,false⟩
abbrev adl:Type:=((Int)×Unit)×(Unit)
def EH:ar:=⟨[.val true .elem,.val false .int],[],false⟩
def ZX:SV->Option ar:=λ_=>some EH
def ajl (a0:Int):OT ph.Y:=
 (.br (ak a0)
 (.ok ⟨EH,(((aL (Int.toNat a0)).fst,((0:Int),())),())⟩)
 (.ok ⟨EH,(({w0:=0,w1:=0,w2:=0,w3:=0},((20:Int),())),())⟩))
theorem avG (x:adl) (Q:ph.Y->Prop):wpf te ak5 ay 1000 Try.f54 (ph.inp.inj x).tm (ph.inp.inj x).hp (fnK ph ZX Q) (λ_ _=>False)=(ajl (x.1.1)).wpR Q:=by kernel_rfl
theorem ajk (pre:adl->Bool) (F:adl->OT ph.Y) (hF:∀ (x:adl) oy,pre x=true->(F x).run=some oy->(ajl (x.1.1)).run=some oy):aa Try.prog 54 (ph.aD pre F):=
 aB ap Nz ak4 (f:=54) (fn:=Try.f54) (c:=al Try.f54) (by kernel_rfl) (by kernel_rfl) (by kernel_rfl) (S:=ph) (k:=0) (by kernel_rfl) (λR hR=>af) (n:=1000) (sel:=ZX) (λv o h=>by cases h;rfl) (pre:=pre) (F:=F) (T:=λx=>ajl (x.1.1)) (λx Q=>avG x Q) hF
def ZY (_:adl):Bool:=true
def apV (x:adl):OT ph.Y:=.br (ak x.1.1) (.ok ⟨EH,(((aL x.1.1.toNat).1,((0:Int),())),())⟩) (.ok ⟨EH,((⟨0,0,0,0⟩,((20:Int),())),())⟩)
theorem ats:aa Try.prog 54 (ph.aD ZY apV):=ajk _ _ λx oy _ ho=>ho
def EG:bI:=(ph.aD ZY apV)
theorem adk:aa Try.prog 54 EG:=ats
theorem adj:aC EG:=ax
def GV:Env:=av 54 EG ak5
theorem qa:aI Try.prog GV:=ag adk Nz
theorem GU:aq GV:=ab adj Kx
theorem zV:aP Try.prog te GV:=aF follows ap qa GU
def lZ:ao:=⟨[.val true (.prod .elem (.prod .int (.prod .u64 (.prod .u64 .elem)))),.val true .elem],[],true,0,false⟩
abbrev ac4:Type:=(((ac×(Int×(UInt64×(UInt64×ac)))))×(ac)×Unit)×(Unit)
def Es:Shape:=⟨53,[(2,.ptr 0 0 0),(3,.ptr 1 0 0),(4,.ptr 2 0 0),(5,.val false .u64),(6,.val false .int)],[(0,.cells [.val false .u64,.val false .u64,.val false .u64,.val false .u64,.val false .int,.val false .u64,.val false .u64,.val false .u64,.val false .u64,.val false .u64,.val false .u64]),(1,.row .u64),(2,.row .u64)],0,true⟩
abbrev c9:Type:=((Unit)×(Unit)×(Unit)×(UInt64)×(Int)×Unit)×(((UInt64)×(UInt64)×(UInt64)×(UInt64)×(Int)×(UInt64)×(UInt64)×(UInt64)×(UInt64)×(UInt64)×(UInt64)×Unit)×(List (UInt64))×(List (UInt64))×Unit)
def vD:Shape:=⟨53,[(4,.ptr 0 0 0),(5,.val false .u64)],[(0,.row .u64)],0,true⟩
abbrev lY:Type:=((Unit)×(UInt64)×Unit)×((List (UInt64))×Unit)
def ai7:SE->Option Shape:=kv [(0,vD)] none
def atl (a5:UInt64) (a6:Int) (c0_0:UInt64) (c0_1:UInt64) (c0_2:UInt64) (c0_3:UInt64) (c0_4:Int) (c0_5:UInt64) (c0_6:UInt64) (c0_7:UInt64) (c0_8:UInt64) (c0_9:UInt64) (c0_10:UInt64) (c1:List (UInt64)) (c2:List (UInt64)):OT (Sum c9 aJ):=
 let z0:UInt64:=List.getD c1 (Int.toNat a6+0) (0:UInt64)
 (.br (decide ((0:Int)<=a6))
 (gd [inB a6 4,decide (Int.toNat a6+0<List.length c1),rm ((a5,z0,c0_5,()),()),inR (a6-(1:Int))] (.ok (.inl (((),((),((),(QS a5 z0 c0_5,(a6-(1:Int),()))))),((c0_0,(c0_1,(c0_2,(c0_3,(c0_4,(c0_5,(c0_6,(c0_7,(c0_8,(c0_9,(c0_10,()))))))))))),(c1,(c2,())))))))
 (.ok (.inr ⟨(.exit 0,vD),(((),(a5,())),(c2,()))⟩)))
def Ev (s:c9):OT (Sum c9 aJ):=atl (s.1.2.2.2.1) (s.1.2.2.2.2.1) (s.2.1.1) (s.2.1.2.1) (s.2.1.2.2.1) (s.2.1.2.2.2.1) (s.2.1.2.2.2.2.1) (s.2.1.2.2.2.2.2.1) (s.2.1.2.2.2.2.2.2.1) (s.2.1.2.2.2.2.2.2.2.1) (s.2.1.2.2.2.2.2.2.2.2.1) (s.2.1.2.2.2.2.2.2.2.2.2.1) (s.2.1.2.2.2.2.2.2.2.2.2.2.1) (s.2.2.1) (s.2.2.2.1)
theorem atg (s:c9) (Q:Sum c9 aJ->Prop):wps te GV ay 1000 (bk (al Try.f65) 0) (Es.inj s) (cO Es ai7 (Q:Sum Es.T aJ->Prop))=(Ev s).wpR Q:=by kernel_rfl
def Mm (g0_0:c9->lY) (s:c9):OT aJ:=(.ok ⟨(.exit 0,vD),g0_0 s⟩)
def Er:Shape:=⟨53,[(2,.ptr 0 0 0),(3,.ptr 1 0 0),(4,.ptr 2 0 0)],[(0,.cells [.val false .u64,.val false .u64,.val false .u64,.val false .u64,.val false .int,.val false .u64,.val false .u64,.val false .u64,.val false .u64,.val false .u64,.val false .u64]),(1,.row .u64),(2,.row .u64)],0,true⟩
abbrev c8:Type:=((Unit)×(Unit)×(Unit)×Unit)×(((UInt64)×(UInt64)×(UInt64)×(UInt64)×(Int)×(UInt64)×(UInt64)×(UInt64)×(UInt64)×(UInt64)×(UInt64)×Unit)×(List (UInt64))×(List (UInt64))×Unit)
def pc:Shape:=⟨53,[(4,.ptr 0 0 0)],[(0,.row .u64)],0,true⟩
abbrev lX:Type:=((Unit)×Unit)×((List (UInt64))×Unit)
def ai6:SE->Option Shape:=kv [] (some pc)
def atk (c0_0:UInt64) (c0_1:UInt64) (c0_2:UInt64) (c0_3:UInt64) (c0_4:Int) (c0_5:UInt64) (c0_6:UInt64) (c0_7:UInt64) (c0_8:UInt64) (c0_9:UInt64) (c0_10:UInt64) (c1:List (UInt64)) (c2:List (UInt64)):OT (Sum c8 aJ):=
 let z0:Nat:=List.length c1
 let z1:Bool:=decide (4<=z0)
 let z2:ac×Bool:=fo {w0:=List.getD c1 0 0,w1:=List.getD c1 1 0,w2:=List.getD c1 2 0,w3:=List.getD c1 3 0} {w0:=c0_0,w1:=c0_1,w2:=c0_2,w3:=c0_3}
 let z3:=z2.fst
 (gd [z1] (.br (z2.snd)
 (gd [z1,decide ((4/1:Nat)+0<=List.length c2)] (.ok (.inr ⟨(.ret,pc),(((),()),(lay c2 c1 4 (0:UInt64),()))⟩)))
 (gd [decide ((4/1:Nat)+0<=z0)] (.ok (.inl (((),((),((),()))),((c0_0,(c0_1,(c0_2,(c0_3,(c0_4,(c0_5,(c0_6,(c0_7,(c0_8,(c0_9,(c0_10,()))))))))))),(List.set (List.set (List.set (List.set c1 0 z3.w0) 1 z3.w1) 2 z3.w2) 3 z3.w3,(c2,())))))))))
def Eu (s:c8):OT (Sum c8 aJ):=atk (s.2.1.1) (s.2.1.2.1) (s.2.1.2.2.1) (s.2.1.2.2.2.1) (s.2.1.2.2.2.2.1) (s.2.1.2.2.2.2.2.1) (s.2.1.2.2.2.2.2.2.1) (s.2.1.2.2.2.2.2.2.2.1) (s.2.1.2.2.2.2.2.2.2.2.1) (s.2.1.2.2.2.2.2.2.2.2.2.1) (s.2.1.2.2.2.2.2.2.2.2.2.2.1) (s.2.2.1) (s.2.2.2.1)
theorem atf (s:c8) (Q:Sum c8 aJ->Prop):wps te GV ay 1000 (bk (al Try.f65) 2) (Er.inj s) (cO Er ai6 (Q:Sum Er.T aJ->Prop))=(Eu s).wpR Q:=by kernel_rfl
def Ml (g2_r:c8->lX) (s:c8):OT aJ:=(.ok ⟨(.ret,pc),g2_r s⟩)
def nu:ar:=⟨[.val true .elem],[],false⟩
def ZQ:SV->Option ar:=λ_=>some nu
def Ew (ok0:c9->Bool) (g0_0:c9->lY) (ok2:c8->Bool) (g2_r:c8->lX) (a0:(ac×(Int×(UInt64×(UInt64×ac))))) (a1:ac):OT lZ.Y:=
 let z0:Bool:= !a0.snd.snd.fst==(0:UInt64)
 let z1:(UInt64×UInt64×UInt64×UInt64×Int×UInt64×UInt64×UInt64×UInt64×UInt64×UInt64×PUnit)×List UInt64×List UInt64×PUnit:=((a0.fst.w0,a0.fst.w1,a0.fst.w2,a0.fst.w3,a0.snd.fst,a0.snd.snd.fst,a0.snd.snd.snd.fst,a0.snd.snd.snd.snd.w0,a0.snd.snd.snd.snd.w1,a0.snd.snd.snd.snd.w2,a0.snd.snd.snd.snd.w3,()),[a1.w0,a1.w1,a1.w2,a1.w3],[(0:UInt64),(0:UInt64),(0:UInt64),(0:UInt64)],())
 let z2:(PUnit×PUnit×PUnit×UInt64×Int×PUnit)×(UInt64×UInt64×UInt64×UInt64×Int×UInt64×UInt64×UInt64×UInt64×UInt64×UInt64×PUnit)×List UInt64×List UInt64×PUnit:=(((),(),(),(0:UInt64),(3:Int),()),z1)
 let z3:(PUnit×UInt64×PUnit)×List UInt64×PUnit:=g0_0 z2
 let z4:=z3.snd.fst
 let z5:List UInt64:=List.set (List.set (List.set (List.set z4 0 z3.fst.snd.fst) 1 (0:UInt64)) 2 (0:UInt64)) 3 (0:UInt64)
 let z6:(PUnit×PUnit×PUnit×PUnit)×(UInt64×UInt64×UInt64×UInt64×Int×UInt64×UInt64×UInt64×UInt64×UInt64×UInt64×PUnit)×List UInt64×List UInt64×PUnit:=(((),(),(),()),z1)
 let z7:=(g2_r z6).snd.fst
 (.br (z0)
 (.br (a1.w1|||a1.w2|||a1.w3==(0:UInt64))
  (gd [z0] (.ok ⟨nu,(({w0:=a1.w0%a0.snd.snd.fst,w1:=0,w2:=0,w3:=0},()),())⟩))
  (gd [ok0 z2,decide ((4/1:Nat)+0<=List.length z4),decide (4<=List.length z5)] (.ok ⟨nu,(({w0:=List.getD z5 0 0,w1:=List.getD z5 1 0,w2:=List.getD z5 2 0,w3:=List.getD z5 3 0},()),())⟩)))
 (gd [ok2 z6,decide (4<=List.length z7)] (.ok ⟨nu,(({w0:=List.getD z7 0 0,w1:=List.getD z7 1 0,w2:=List.getD z7 2 0,w3:=List.getD z7 3 0},()),())⟩)))
theorem avB (ok0:c9->Bool) (g0_0:c9->lY) (ok2:c8->Bool) (g2_r:c8->lX) (x:ac4) (Q:lZ.Y->Prop):wpf te GV (bu 2 (dq Er 2 ok2 (Ml g2_r)) (bu 0 (dq Es 0 ok0 (Mm g0_0)) ay)) 1000 Try.f65 (lZ.inp.inj x).tm (lZ.inp.inj x).hp (fnK lZ ZQ Q) (λ_ _=>False)=(Ew ok0 g0_0 ok2 g2_r (x.1.1) (x.1.2.1)).wpR Q:=by kernel_rfl
theorem ai8 (ok0:c9->Bool) (g0_0:c9->lY) (ok2:c8->Bool) (g2_r:c8->lX) (h0:∀ s:c9,ok0 s=true->∃ m e,aA (Ev) m s=some e/\(Mm g0_0 s).run=some e) (h2:∀ s:c8,ok2 s=true->∃ m e,aA (Eu) m s=some e/\(Ml g2_r s).run=some e) (pre:ac4->Bool) (F:ac4->OT lZ.Y) (hF:∀ (x:ac4) oy,pre x=true->(F x).run=some oy->(Ew ok0 g0_0 ok2 g2_r (x.1.1) (x.1.2.1)).run=some oy):aa Try.prog 65 (lZ.aD pre F):=
 aB ap qa zV (f:=65) (fn:=Try.f65) (c:=al Try.f65) (by kernel_rfl) (by kernel_rfl) (by kernel_rfl) (S:=lZ) (k:=0) (by kernel_rfl) (λR hR=>(aH (c:=(al Try.f65)) (by kernel_rfl) (id:=2) (by kernel_rfl) (bn ap qa zV (sh:=Er) hR (xs:=ai6) (aG (by kernel_rfl) (by kernel_rfl) hR) aV af (n:=1000) (T:=Eu) (λs Q=>atf s Q) (ok:=ok2) (f:=Ml g2_r) h2) (aH (c:=(al Try.f65)) (by kernel_rfl) (id:=0) (by kernel_rfl) (bn ap qa zV (sh:=Es) hR (xs:=ai7) (aG (by kernel_rfl) (by kernel_rfl) hR) aV af (n:=1000) (T:=Ev) (λs Q=>atg s Q) (ok:=ok0) (f:=Mm g0_0) h0) af))) (n:=1000) (sel:=ZQ) (λv o h=>by cases h;rfl) (pre:=pre) (F:=F) (T:=λx=>Ew ok0 g0_0 ok2 g2_r (x.1.1) (x.1.2.1)) (λx Q=>avB ok0 g0_0 ok2 g2_r x Q) hF
def iI (n:HT):Bool:=decide (n=aL 0)||(decide (n=aL 1)||(decide (n=aL 2)||decide (n=aL 3)))
theorem sR {n:HT} (h:iI n=true):n=aL 0\/n=aL 1\/n=aL 2\/n=aL 3:=by
 simpa [iI] using h
theorem gu {s:Int} (h:ak s=true):iI (aL s.toNat)=true:=by
 rcases bD h with rfl|rfl|rfl|rfl<;>decide+kernel
def au0 (c:List UInt64) (m:UInt64):UInt64:=upto (λk r=>QS r (c.getD (3-k) 0) m) 0 4
theorem jF {m:UInt64} (h:eT m=true):0<m.toNat:=by
 rcases dr h with rfl|rfl<;>decide
theorem YP {a:ac} {m:UInt64} (h:eT m=true):au0 (lst a) m=UInt64.ofNat (a.nat%m.toNat):=by
 have hm:=jF h
 rw [<-UInt64.toNat_inj,UInt64.toNat_ofNat',Nat.mod_eq_of_lt (b:=2^64) (Nat.lt_trans (Nat.mod_lt _ hm) m.toNat_lt)]
 show (QS (QS (QS (QS 0 a.w3 m) a.w2 m) a.w1 m) a.w0 m).toNat=_
 rw [nA hm,nA hm,nA hm,nA hm,LR _ a.w2.toNat,LR _ a.w1.toNat,LR _ a.w0.toNat,show (0:UInt64).toNat=0 from rfl]
 congr 1
 unfold Sx.ac.nat
 omega
def vC (s:c9):Bool:=decide (s.1.2.2.2.1=0/\s.1.2.2.2.2.1=3/\s.2.2.1.length=4)&&eT s.2.1.2.2.2.2.2.1
def Mk (s:c9):lY:=(((),au0 s.2.2.1 s.2.1.2.2.2.2.2.1,()),(s.2.2.2.1,()))
theorem atj:∀ s:c9,vC s=true->∃ m e,aA Ev m s=some e/\(Mm Mk s).run=some e:=by
 rintro ⟨⟨⟨⟩,⟨⟩,⟨⟩,r,i,⟨⟩⟩,⟨⟨x0,x1,x2,x3,x4,sm,x6,x7,x8,x9,x10,⟨⟩⟩,c1,c2,⟨⟩⟩⟩ h
 simp only [vC,Bool.and_eq_true,decide_eq_true_eq] at h
 obtain ⟨⟨rfl,rfl,hl⟩,hs⟩:=h
 have hm:=jF hs
 have:=(bw (T:=Ev) (λk r=>((((),(),(),r,3-(k:Int),()),((x0,x1,x2,x3,x4,sm,x6,x7,x8,x9,x10,()),c1,c2,())):c9)) (λk r=>QS r (c1.getD (3-k) 0) sm)
  (λr=>(⟨(.exit 0,vD),(((),r,()),(c2,()))⟩:aJ)) 4 0 (λ_ r=>r.toNat<sm.toNat) hm (λk r hk hr=>⟨?_,?_⟩) (λr hr=> ?_)).1
 ·obtain ⟨m,hm⟩:=this
  exact ⟨m,_,hm,rfl⟩
 ·have e1:(3-(k:Int)).toNat=3-k:=by omega
  have e2:(3:Int)-(k:Int)-1=3-((k+1:Nat):Int):=by omega
  refine (OT.au (decide_eq_true (by dsimp only;omega))).trans ((ah ?_).trans ?_)
  ·simp only [e1,Nat.add_zero,hl,List.all_cons,List.all_nil,Bool.and_true,Bool.and_eq_true]
   refine ⟨bc (by omega),decide_eq_true (by omega),?_,aS (by omega)⟩
   simp only [rm,Bool.and_eq_true]
   exact ⟨hs,decide_eq_true (UInt64.lt_iff_toNat_lt.2 hr)⟩
  ·simp only [OT.eC,e1,e2,Nat.add_zero]
 ·rw [nA hm]
  exact Nat.mod_lt _ hm
 ·exact OT.aw (decide_eq_false (by dsimp only;omega))
def aww (s:c8):ac:=⟨s.2.1.1,s.2.1.2.1,s.2.1.2.2.1,s.2.1.2.2.2.1⟩
def Cd (s:c8):Bool:=decide (s.2.2.1.length=4/\s.2.2.2.1.length=4/\0<(aww s).nat)
def Mj (s:c8):lX:=(((),()),(lst (ofN ((elemOf s.2.2.1).nat%(aww s).nat)),()))
theorem ac2 {x0 x1 x2 x3 x5 x6 x7 x8 x9 x10:UInt64} {x4:Int} {c2:List UInt64} (hc:c2.length=4) (hm:0<(ac.mk x0 x1 x2 x3).nat):∀ (n:Nat) (a:ac),a.nat=n->
 ∃ m,aA Eu m (((),(),(),()),((x0,x1,x2,x3,x4,x5,x6,x7,x8,x9,x10,()),lst a,c2,()))=some ⟨(.ret,pc),(((),()),(lst (ofN (a.nat%(ac.mk x0 x1 x2 x3).nat)),()))⟩:=by
 intro n
 induction n using Nat.strongRecOn with
 |_ n ih=>
  intro a hn
  cases hb:Nat.blt a.nat (ac.mk x0 x1 x2 x3).nat
  ·have hle:(ac.mk x0 x1 x2 x3).nat<=a.nat:=by
    rcases Nat.lt_or_ge a.nat (ac.mk x0 x1 x2 x3).nat with h|h
    ·have:Nat.blt a.nat (ac.mk x0 x1 x2 x3).nat=true:=Nat.ble_eq_true_of_le h
     rw [this] at hb;cases hb
    ·exact h
   have hd:=kC hle
   obtain ⟨m,hm2⟩:=ih (a.nat-(ac.mk x0 x1 x2 x3).nat) (by omega) (fo a ⟨x0,x1,x2,x3⟩).1 hd
   rw [hd,<-Nat.mod_eq_sub_mod hle] at hm2
   refine ⟨m+1,aU ?_ hm2⟩
   refine (ah ?_).trans ((OT.aw hb).trans ((ah ?_).trans rfl))
   ·rfl
   ·rfl
  ·have hlt:=dA hb
   rw [Nat.mod_eq_of_lt hlt,m9]
   refine ⟨1,bt ?_⟩
   refine (ah ?_).trans ((OT.au hb).trans ((ah ?_).trans ?_))
   ·rfl
   ·simp only [hc,List.all_cons,List.all_nil,Bool.and_true,Bool.and_eq_true]
    exact ⟨rfl,rfl⟩
   ·show some (Sum.inr (⟨(.ret,pc),(((),()),(lay c2 (lst a) 4 0,()))⟩:aJ))=_
    rw [PJ hc (cE a)]
theorem ati:∀ s:c8,Cd s=true->∃ m e,aA Eu m s=some e/\(Ml Mj s).run=some e:=by
 rintro ⟨⟨⟨⟩,⟨⟩,⟨⟩,⟨⟩⟩,⟨⟨x0,x1,x2,x3,x4,x5,x6,x7,x8,x9,x10,⟨⟩⟩,c1,c2,⟨⟩⟩⟩ h
 have h':=of_decide_eq_true h
 dsimp only [aww] at h'
 obtain ⟨h1,h2,h3⟩:=h'
 obtain ⟨m,hm⟩:=ac2 (x4:=x4) (x5:=x5) (x6:=x6) (x7:=x7) (x8:=x8) (x9:=x9) (x10:=x10) h2 h3 _ (elemOf c1) rfl
 rw [aM h1] at hm
 exact ⟨m,_,hm,rfl⟩
def fg (x:ac4):Bool:=iI x.1.1
def apR (x:ac4):OT lZ.Y:=.ok ⟨nu,((ofN (x.1.2.1.nat%x.1.1.1.nat),()),())⟩
theorem oR {n:Nat} (h:n<18446744073709551616):ofN n=⟨UInt64.ofNat n,0,0,0⟩:=by
 refine ah8 (k:=0) ?_
 rw [UInt64.toNat_ofNat',Nat.mod_eq_of_lt (by omega)]
 simp
theorem Et {n:HT} {a:ac} {m:UInt64} (h1:n.1=⟨m,0,0,0⟩) (h2:n.2.2.1=m) (hs:eT m=true):(Ew vC Mk Cd Mj n a).run=some ⟨nu,((ofN (a.nat%n.1.nat),()),())⟩:=by
 have hm:=jF hs
 have hn:n.1.nat=m.toNat:=by rw [h1];show m.toNat+_*(0+_*(0+_*0))=_;omega
 have hz:(!(n.2.2.1==0))=true:=by
  rw [h2]
  rcases dr hs with rfl|rfl<;>rfl
 have hlt:a.nat%m.toNat<18446744073709551616:=Nat.lt_trans (Nat.mod_lt _ hm) m.toNat_lt
 rw [hn,oR hlt]
 unfold Ew
 refine (OT.au hz).trans ?_
 cases hb:(a.w1|||a.w2|||a.w3==0)
 ·refine (OT.aw rfl).trans ((ah ?_).trans ?_)
  ·simp only [List.all_cons,List.all_nil,Bool.and_true,Bool.and_eq_true]
   refine ⟨?_,rfl,rfl⟩
   show (decide _&&eT n.2.2.1)=true
   rw [h2,hs,Bool.and_true]
   exact decide_eq_true ⟨rfl,rfl,rfl⟩
  ·show some (⟨nu,((⟨au0 (lst a) n.2.2.1,0,0,0⟩,()),())⟩:lZ.Y)=_
   rw [h2,YP hs]
 ·refine (OT.au rfl).trans ((ah ?_).trans ?_)
  ·simp only [hz,List.all_cons,List.all_nil,Bool.and_true]
  ·have hw:a.w1=0/\a.w2=0/\a.w3=0:=by
    have:a.w1|||a.w2|||a.w3=0:=by simpa using hb
    simpa [UInt64.or_eq_zero_iff,and_assoc] using this
   have ha:a.nat=a.w0.toNat:=by
    unfold Sx.ac.nat
    rw [hw.1,hw.2.1,hw.2.2]
    show _+_*(0+_*(0+_*0))=_
    omega
   show some (⟨nu,((⟨a.w0%n.2.2.1,0,0,0⟩,()),())⟩:lZ.Y)=_
   have e:a.w0%n.2.2.1=UInt64.ofNat (a.nat%m.toNat):=by
    rw [h2,ha,<-UInt64.toNat_inj,UInt64.toNat_mod,UInt64.toNat_ofNat']
    exact (Nat.mod_eq_of_lt (by rw [<-ha];omega)).symm
   rw [e]
theorem JF {n:HT} {a:ac} (h2:n.2.2.1=0) (hs:0<n.1.nat):(Ew vC Mk Cd Mj n a).run=some ⟨nu,((ofN (a.nat%n.1.nat),()),())⟩:=by
 unfold Ew
 refine (OT.aw (by rw [h2];rfl)).trans ((ah ?_).trans ?_)
 ·simp only [List.all_cons,List.all_nil,Bool.and_true,Bool.and_eq_true]
  exact ⟨decide_eq_true ⟨rfl,rfl,hs⟩,rfl⟩
 ·rfl
theorem awS:0<(aL 2).1.nat:=by decide+kernel
theorem awR:0<(aL 3).1.nat:=by decide+kernel
theorem ath:aa Try.prog 65 (lZ.aD fg apR):=ai8 vC Mk Cd Mj atj ati _ _ λx oy hp ho=>by
 rw [<-ho]
 clear ho
 obtain ⟨⟨n,a,⟨⟩⟩,⟨⟩⟩:=x
 have hp':iI n=true:=hp
 rcases sR hp' with rfl|rfl|rfl|rfl
 ·exact Et (m:=16513537) rfl rfl rfl
 ·exact Et (m:=16521217) rfl rfl rfl
 ·exact JF rfl awS
 ·exact JF rfl awR
def Ep:bI:=(lZ.aD fg apR)
theorem ac3:aa Try.prog 65 Ep:=ath
theorem ac1:aC Ep:=ax
def Sk:Env:=av 65 Ep GV
theorem GM:aI Try.prog Sk:=ag ac3 qa
theorem GN:aq Sk:=ab ac1 GU
theorem aez:aP Try.prog te Sk:=aF follows ap GM GN
def kg:ao:=⟨[.val true (.prod .elem (.prod .int (.prod .u64 (.prod .u64 .elem)))),.val true .elem,.val true .elem],[],true,0,false⟩
abbrev JR:Type:=(((ac×(Int×(UInt64×(UInt64×ac)))))×(ac)×(ac)×Unit)×(Unit)
def MB:ar:=⟨[.val true .elem],[],false⟩
def QI:SV->Option ar:=λ_=>some MB
def VJ (a0:(ac×(Int×(UInt64×(UInt64×ac))))) (a1:ac) (a2:ac):OT kg.Y:=
 let z0:Nat:=ac.nat a0.fst
 let z1:ac:=(mD (ofN (ac.nat a1%z0)) (ofN (ac.nat a2%z0))).fst
 (gd [fg ((a0,a1,()),()),fg ((a0,a2,()),()),fg ((a0,z1,()),())] (.ok ⟨MB,((ofN (ac.nat z1%z0),()),())⟩))
theorem atz (x:JR) (Q:kg.Y->Prop):wpf te Sk ay 1000 Try.f85 (kg.inp.inj x).tm (kg.inp.inj x).hp (fnK kg QI Q) (λ_ _=>False)=(VJ (x.1.1) (x.1.2.1) (x.1.2.2.1)).wpR Q:=by kernel_rfl
theorem adD (pre:JR->Bool) (F:JR->OT kg.Y) (hF:∀ (x:JR) oy,pre x=true->(F x).run=some oy->(VJ (x.1.1) (x.1.2.1) (x.1.2.2.1)).run=some oy):aa Try.prog 85 (kg.aD pre F):=
 aB ap GM aez (f:=85) (fn:=Try.f85) (c:=al Try.f85) (by kernel_rfl) (by kernel_rfl) (by kernel_rfl) (S:=kg) (k:=0) (by kernel_rfl) (λR hR=>af) (n:=1000) (sel:=QI) (λv o h=>by cases h;rfl) (pre:=pre) (F:=F) (T:=λx=>VJ (x.1.1) (x.1.2.1) (x.1.2.2.1)) (λx Q=>atz x Q) hF
theorem u7 {n:HT} (h:iI n=true):0<n.1.nat/\n.1.nat<57896044618658097711785492504343953926634992332820282019728792003956564819968:=by
 rcases sR h with rfl|rfl|rfl|rfl
 ·exact ⟨by decide+kernel,by decide+kernel⟩
 ·exact ⟨by decide+kernel,by decide+kernel⟩
 ·exact ⟨by decide+kernel,by decide+kernel⟩
 ·exact ⟨by decide+kernel,by decide+kernel⟩
def pS (s:Int):Nat:=(aL s.toNat).1.nat
theorem iT {s:Int} (h:ak s=true):0<pS s/\pS s<57896044618658097711785492504343953926634992332820282019728792003956564819968:=u7 (gu h)
def n8 (p:Nat) (a b:ac):ac:=ofN ((a.nat+b.nat)%p)
def HA (p:Nat) (a:ac):ac:=ofN ((p-a.nat%p)%p)
def cQ (p:Nat) (a b:ac):ac:=ofN (a.nat*b.nat%p)
theorem cj {p n:Nat} (h:0<p/\p<57896044618658097711785492504343953926634992332820282019728792003956564819968):(ofN (n%p)).nat=n%p:=by
 have:=Nat.mod_lt n h.1
 exact iJ (by omega)
theorem akY {p:Nat} (h:0<p/\p<57896044618658097711785492504343953926634992332820282019728792003956564819968) (a b:ac):ofN ((mD (ofN (a.nat%p)) (ofN (b.nat%p))).1.nat%p)=n8 p a b:=by
 have ha:=Nat.mod_lt a.nat h.1
 have hb:=Nat.mod_lt b.nat h.1
 have e:(mD (ofN (a.nat%p)) (ofN (b.nat%p))).1.nat=a.nat%p+b.nat%p:=by
  show (ofN _).nat=_
  rw [cj h,cj h]
  exact iJ (by omega)
 unfold n8
 rw [e,<-Nat.add_mod]
def EZ (x:JR):Bool:=iI x.1.1
def VK (x:JR):OT kg.Y:=.ok ⟨MB,((n8 x.1.1.1.nat x.1.2.1 x.1.2.2.1,()),())⟩
theorem aon:aa Try.prog 85 (kg.aD EZ VK):=adD _ _ λx oy hp ho=>by
 rw [<-ho]
 clear ho
 obtain ⟨⟨n,a,b,⟨⟩⟩,⟨⟩⟩:=x
 have hp':iI n=true:=hp
 refine (ah ?_).trans ?_
 ·simp only [List.all_cons,List.all_nil,Bool.and_true,Bool.and_eq_true]
  exact ⟨hp',hp',hp'⟩
 ·simp only [VK,akY (u7 hp')]
def yS:bI:=(kg.aD EZ VK)
theorem VI:aa Try.prog 85 yS:=aon
theorem VH:aC yS:=ax
def G4:Env:=av 85 yS Sk
theorem zX:aI Try.prog G4:=ag VI GM
theorem Bu:aq G4:=ab VH GN
theorem W0:aP Try.prog te G4:=aF follows ap zX Bu
def kb:ao:=⟨[.val true (.prod .elem (.prod .int (.prod .u64 (.prod .u64 .elem)))),.val true .elem],[],true,0,false⟩
abbrev JI:Type:=(((ac×(Int×(UInt64×(UInt64×ac)))))×(ac)×Unit)×(Unit)
def Mq:ar:=⟨[.val true .elem],[],false⟩
def Qt:SV->Option ar:=λ_=>some Mq
def Vt (a0:(ac×(Int×(UInt64×(UInt64×ac))))) (a1:ac):OT kb.Y:=
 let z0:Nat:=ac.nat a0.fst
 let z1:ac:=(fo a0.fst (ofN (ac.nat a1%z0))).fst
 (gd [fg ((a0,a1,()),()),fg ((a0,z1,()),())] (.ok ⟨Mq,((ofN (ac.nat z1%z0),()),())⟩))
theorem atp (x:JI) (Q:kb.Y->Prop):wpf te G4 ay 1000 Try.f72 (kb.inp.inj x).tm (kb.inp.inj x).hp (fnK kb Qt Q) (λ_ _=>False)=(Vt (x.1.1) (x.1.2.1)).wpR Q:=by kernel_rfl
theorem ade (pre:JI->Bool) (F:JI->OT kb.Y) (hF:∀ (x:JI) oy,pre x=true->(F x).run=some oy->(Vt (x.1.1) (x.1.2.1)).run=some oy):aa Try.prog 72 (kb.aD pre F):=
 aB ap zX W0 (f:=72) (fn:=Try.f72) (c:=al Try.f72) (by kernel_rfl) (by kernel_rfl) (by kernel_rfl) (S:=kb) (k:=0) (by kernel_rfl) (λR hR=>af) (n:=1000) (sel:=Qt) (λv o h=>by cases h;rfl) (pre:=pre) (F:=F) (T:=λx=>Vt (x.1.1) (x.1.2.1)) (λx Q=>atp x Q) hF
theorem asX {m:ac} (h:0<m.nat/\m.nat<57896044618658097711785492504343953926634992332820282019728792003956564819968) (a:ac):ofN ((fo m (ofN (a.nat%m.nat))).1.nat%m.nat)=HA m.nat a:=by
 have ha:=Nat.mod_lt a.nat h.1
 have e:=cj (n:=a.nat) h
 have e2:(fo m (ofN (a.nat%m.nat))).1.nat=m.nat-a.nat%m.nat:=by
  rw [kC (by rw [e];omega),e]
 unfold HA
 rw [e2]
def vG (x:JI):Bool:=iI x.1.1
def Vu (x:JI):OT kb.Y:=.ok ⟨Mq,((HA x.1.1.1.nat x.1.2.1,()),())⟩
theorem aof:aa Try.prog 72 (kb.aD vG Vu):=ade _ _ λx oy hp ho=>by
 rw [<-ho]
 clear ho
 obtain ⟨⟨n,a,⟨⟩⟩,⟨⟩⟩:=x
 have hp':iI n=true:=hp
 refine (ah ?_).trans ?_
 ·simp only [List.all_cons,List.all_nil,Bool.and_true,Bool.and_eq_true]
  exact ⟨hp',hp'⟩
 ·simp only [Vu,asX (u7 hp')]
def yM:bI:=(kb.aD vG Vu)
theorem Vs:aa Try.prog 72 yM:=aof
theorem Vr:aC yM:=ax
def GP:Env:=av 72 yM G4
theorem zT:aI Try.prog GP:=ag Vs zX
theorem Bq:aq GP:=ab Vr Bu
theorem WY:aP Try.prog te GP:=aF follows ap zT Bq
def pu:ao:=⟨[.val false .int,.val true .elem,.val true .elem],[],true,0,false⟩
abbrev adC:Type:=((Int)×(ac)×(ac)×Unit)×(Unit)
def EY:ar:=⟨[.val true .elem],[],false⟩
def Z7:SV->Option ar:=λ_=>some EY
def ajB (a0:Int) (a1:ac) (a2:ac):OT pu.Y:=
 let z0:ac×Int×UInt64×UInt64×ac:=aL (Int.toNat a0)
 (.br (ak a0)
 (gd [EZ ((z0,a1,a2,()),())] (.ok ⟨EY,((n8 (ac.nat z0.fst) a1 a2,()),())⟩))
 (.ok ⟨EY,(({w0:=0,w1:=0,w2:=0,w3:=0},()),())⟩))
theorem avJ (x:adC) (Q:pu.Y->Prop):wpf te GP ay 1000 Try.f57 (pu.inp.inj x).tm (pu.inp.inj x).hp (fnK pu Z7 Q) (λ_ _=>False)=(ajB (x.1.1) (x.1.2.1) (x.1.2.2.1)).wpR Q:=by kernel_rfl
theorem ajA (pre:adC->Bool) (F:adC->OT pu.Y) (hF:∀ (x:adC) oy,pre x=true->(F x).run=some oy->(ajB (x.1.1) (x.1.2.1) (x.1.2.2.1)).run=some oy):aa Try.prog 57 (pu.aD pre F):=
 aB ap zT WY (f:=57) (fn:=Try.f57) (c:=al Try.f57) (by kernel_rfl) (by kernel_rfl) (by kernel_rfl) (S:=pu) (k:=0) (by kernel_rfl) (λR hR=>af) (n:=1000) (sel:=Z7) (λv o h=>by cases h;rfl) (pre:=pre) (F:=F) (T:=λx=>ajB (x.1.1) (x.1.2.1) (x.1.2.2.1)) (λx Q=>avJ x Q) hF
def Z8 (_:adC):Bool:=true
def apY (x:adC):OT pu.Y:=.br (ak x.1.1) (.ok ⟨EY,((n8 (pS x.1.1) x.1.2.1 x.1.2.2.1,()),())⟩) (.ok ⟨EY,((⟨0,0,0,0⟩,()),())⟩)
theorem aty:aa Try.prog 57 (pu.aD Z8 apY):=ajA _ _ λx oy hp ho=>by
 rw [<-ho]
 clear ho
 obtain ⟨⟨s,a,b,⟨⟩⟩,⟨⟩⟩:=x
 cases hs:ak s
 ·exact (OT.aw hs).trans (OT.aw (b:=ak s) hs).symm
 ·refine (OT.au hs).trans ((ah ?_).trans (OT.au (b:=ak s) hs).symm)
  simp only [List.all_cons,List.all_nil,Bool.and_true]
  exact gu hs
def EX:bI:=(pu.aD Z8 apY)
theorem adB:aa Try.prog 57 EX:=aty
theorem adA:aC EX:=ax
def Sq:Env:=av 57 EX GP
theorem G2:aI Try.prog Sq:=ag adB zT
theorem G3:aq Sq:=ab adA Bq
theorem aeD:aP Try.prog te Sq:=aF follows ap G2 G3
def pf:ao:=⟨[.val false .int,.val true .elem],[],true,0,false⟩
abbrev adb:Type:=((Int)×(ac)×Unit)×(Unit)
def EC:ar:=⟨[.val true .elem],[],false⟩
def ZT:SV->Option ar:=λ_=>some EC
def ajf (a0:Int) (a1:ac):OT pf.Y:=
 let z0:ac×Int×UInt64×UInt64×ac:=aL (Int.toNat a0)
 (.br (ak a0)
 (gd [vG ((z0,a1,()),())] (.ok ⟨EC,((HA (ac.nat z0.fst) a1,()),())⟩))
 (.ok ⟨EC,(({w0:=0,w1:=0,w2:=0,w3:=0},()),())⟩))
theorem avE (x:adb) (Q:pf.Y->Prop):wpf te Sq ay 1000 Try.f36 (pf.inp.inj x).tm (pf.inp.inj x).hp (fnK pf ZT Q) (λ_ _=>False)=(ajf (x.1.1) (x.1.2.1)).wpR Q:=by kernel_rfl
theorem aje (pre:adb->Bool) (F:adb->OT pf.Y) (hF:∀ (x:adb) oy,pre x=true->(F x).run=some oy->(ajf (x.1.1) (x.1.2.1)).run=some oy):aa Try.prog 36 (pf.aD pre F):=
 aB ap G2 aeD (f:=36) (fn:=Try.f36) (c:=al Try.f36) (by kernel_rfl) (by kernel_rfl) (by kernel_rfl) (S:=pf) (k:=0) (by kernel_rfl) (λR hR=>af) (n:=1000) (sel:=ZT) (λv o h=>by cases h;rfl) (pre:=pre) (F:=F) (T:=λx=>ajf (x.1.1) (x.1.2.1)) (λx Q=>avE x Q) hF
def ZU (_:adb):Bool:=true
def apS (x:adb):OT pf.Y:=.br (ak x.1.1) (.ok ⟨EC,((HA (pS x.1.1) x.1.2.1,()),())⟩) (.ok ⟨EC,((⟨0,0,0,0⟩,()),())⟩)
theorem ato:aa Try.prog 36 (pf.aD ZU apS):=aje _ _ λx oy hp ho=>by
 rw [<-ho]
 clear ho
 obtain ⟨⟨s,a,⟨⟩⟩,⟨⟩⟩:=x
 cases hs:ak s
 ·exact (OT.aw hs).trans (OT.aw (b:=ak s) hs).symm
 ·refine (OT.au hs).trans ((ah ?_).trans (OT.au (b:=ak s) hs).symm)
  simp only [List.all_cons,List.all_nil,Bool.and_true]
  exact gu hs
def EB:bI:=(pf.aD ZU apS)
theorem ada:aa Try.prog 36 EB:=ato
theorem ac9:aC EB:=ax
def Kz:Env:=av 36 EB Sq
theorem wN:aI Try.prog Kz:=ag ada G2
theorem GO:aq Kz:=ab ac9 G3
theorem Ky:aP Try.prog te Kz:=aF follows ap wN GO
end Go.Proofs.Ythgjhpbapddpnaa

namespace Go.Proofs.Ythgjhpbapddpnaa
open Sx Go
def l6 (n:Nat):List UInt64:= [UInt64.ofNat n,UInt64.ofNat (n/18446744073709551616),UInt64.ofNat (n/18446744073709551616/18446744073709551616),UInt64.ofNat (n/18446744073709551616/18446744073709551616/18446744073709551616),
 UInt64.ofNat (n/18446744073709551616/18446744073709551616/18446744073709551616/18446744073709551616),UInt64.ofNat (n/18446744073709551616/18446744073709551616/18446744073709551616/18446744073709551616/18446744073709551616)]
def v6 (l:List UInt64):Nat:=(l.getD 0 0).toNat+18446744073709551616*((l.getD 1 0).toNat+18446744073709551616*((l.getD 2 0).toNat+18446744073709551616*((l.getD 3 0).toNat+18446744073709551616*((l.getD 4 0).toNat+18446744073709551616*(l.getD 5 0).toNat))))
theorem fL {m:Nat} {x:UInt64} (hm:m%18446744073709551616=x.toNat):UInt64.ofNat m=x:=by
 rw [<-UInt64.toNat_inj,UInt64.toNat_ofNat']
 exact hm
theorem awo {n:Nat} {a b c d e:UInt64} {k:Nat} {f:UInt64} (h:n=a.toNat+18446744073709551616*(b.toNat+18446744073709551616*(c.toNat+18446744073709551616*(d.toNat+18446744073709551616*(e.toNat+18446744073709551616*k))))) (hf:k%18446744073709551616=f.toNat):l6 n= [a,b,c,d,e,f]:=by
 obtain ⟨h1,h0⟩:=div_eq a.toNat_lt h
 obtain ⟨h2,h3⟩:=div_eq b.toNat_lt h1
 obtain ⟨h4,h5⟩:=div_eq c.toNat_lt h2
 obtain ⟨h6,h7⟩:=div_eq d.toNat_lt h4
 obtain ⟨h8,h9⟩:=div_eq e.toNat_lt h6
 unfold l6
 rw [fL (x:=a) h0,fL (x:=b) h3,fL (x:=c) h5,fL (x:=d) h7,fL (x:=e) h9,fL (x:=f) (by rw [h8];exact hf)]
theorem aiy (n:Nat):(l6 n).length=6:=rfl
def aum (t a x c:UInt64):UInt64:=rS t (rS (a*x) c 0) 0
def xg (t a x c:UInt64):UInt64:=alc a x+tR (a*x) c 0+tR t (rS (a*x) c 0) 0
theorem at4 {t P p h c l k1 r k2 W:Nat} (hP:P=p+W*h) (h1:p+c=l+W*k1) (h2:t+l=r+W*k2):t+P+c=r+W*(h+k1+k2):=by
 rw [Nat.mul_add,Nat.mul_add]
 omega
theorem ak0 {t P c r q W:Nat} (hW:0<W) (ht:t<=W-1) (hc:c<=W-1) (hP:P<=(W-1)*(W-1)) (h:t+P+c=r+W*q):q<W:=by
 obtain ⟨V,rfl⟩:∃ V,W=V+1:=⟨W-1,by omega⟩
 rw [Nat.add_sub_cancel] at*
 refine Nat.lt_of_not_le λhq=> ?_
 have h1:(V+1)*(V+1)<=(V+1)*q:=Nat.mul_le_mul_left _ hq
 have h2:(V+1)*(V+1)=V*V+V+V+1:=by rw [Nat.add_mul,Nat.mul_add,Nat.one_mul,Nat.mul_one];omega
 omega
theorem anC (a x:UInt64):(alc a x).toNat=a.toNat*x.toNat/18446744073709551616:=by
 have ha:=a.toNat_lt
 have hx:=x.toNat_lt
 have:a.toNat*x.toNat/18446744073709551616<18446744073709551616:=by
  rw [Nat.div_lt_iff_lt_mul (by omega)]
  exact Nat.mul_lt_mul'' ha hx
 unfold alc
 rw [UInt64.toNat_ofNat',Nat.mod_eq_of_lt this]
theorem Cr (t a x c:UInt64):t.toNat+a.toNat*x.toNat+c.toNat=(aum t a x c).toNat+18446744073709551616*(xg t a x c).toNat:=by
 have hP:a.toNat*x.toNat=(a*x).toNat+18446744073709551616*(alc a x).toNat:=by
  rw [anC,UInt64.toNat_mul]
  exact (Nat.mod_add_div _ _).symm
 have h1:=ks (a*x) c 0
 have h2:=ks t (rS (a*x) c 0) 0
 rw [show (0:UInt64).toNat=0 from rfl,Nat.add_zero] at h1 h2
 have key:=at4 hP h1 h2
 have hb:=ak0 (W:=18446744073709551616) (by omega) (Nat.le_sub_one_of_lt t.toNat_lt) (Nat.le_sub_one_of_lt c.toNat_lt) (Nat.mul_le_mul (Nat.le_sub_one_of_lt a.toNat_lt) (Nat.le_sub_one_of_lt x.toNat_lt)) key
 have e:(xg t a x c).toNat=(alc a x).toNat+(tR (a*x) c 0).toNat+(tR t (rS (a*x) c 0) 0).toNat:=by
  unfold xg
  rw [UInt64.toNat_add,UInt64.toNat_add,Nat.mod_add_mod]
  exact Nat.mod_eq_of_lt hb
 rw [e]
 exact key
theorem Cs {t a x c s k T A R W:Nat} (h1:t+a*x+c=s+W*k) (h2:T+A*x+k=R):(t+W*T)+(a+W*A)*x+c=s+W*R:=by
 rw [Nat.add_mul,Nat.mul_assoc,<-h2,Nat.mul_add,Nat.mul_add]
 omega
def awO (t0 t1 t2 t3 t4 t5:UInt64) (a:ac) (x:UInt64):List UInt64:=
 let k0:=xg t0 a.w0 x 0
 let k1:=xg t1 a.w1 x k0
 let k2:=xg t2 a.w2 x k1
 let k3:=xg t3 a.w3 x k2
 [aum t0 a.w0 x 0,aum t1 a.w1 x k0,aum t2 a.w2 x k1,aum t3 a.w3 x k2,rS t4 k3 0,t5+tR t4 k3 0]
theorem at5 (t0 t1 t2 t3 t4 t5:UInt64) (a:ac) (x:UInt64):awO t0 t1 t2 t3 t4 t5 a x=l6 (v6 [t0,t1,t2,t3,t4,t5]+a.nat*x.toNat):=by
 have h4:=ks t4 (xg t3 a.w3 x (xg t2 a.w2 x (xg t1 a.w1 x (xg t0 a.w0 x 0)))) 0
 rw [show (0:UInt64).toNat=0 from rfl,Nat.add_zero] at h4
 have h5:(t4.toNat+18446744073709551616*t5.toNat)+0*x.toNat+(xg t3 a.w3 x (xg t2 a.w2 x (xg t1 a.w1 x (xg t0 a.w0 x 0)))).toNat=
  (rS t4 (xg t3 a.w3 x (xg t2 a.w2 x (xg t1 a.w1 x (xg t0 a.w0 x 0)))) 0).toNat+18446744073709551616*(t5.toNat+(tR t4 (xg t3 a.w3 x (xg t2 a.w2 x (xg t1 a.w1 x (xg t0 a.w0 x 0)))) 0).toNat):=by
  rw [Nat.zero_mul,Nat.mul_add]
  omega
 have h:=Cs (Cr t0 a.w0 x 0) (Cs (Cr t1 a.w1 x _) (Cs (Cr t2 a.w2 x _) (Cs (Cr t3 a.w3 x _) h5)))
 rw [show (0:UInt64).toNat=0 from rfl,Nat.add_zero,Nat.mul_zero,Nat.add_zero] at h
 exact (awo (f:=t5+tR t4 (xg t3 a.w3 x (xg t2 a.w2 x (xg t1 a.w1 x (xg t0 a.w0 x 0)))) 0) h (by rw [UInt64.toNat_add])).symm
end Go.Proofs.Ythgjhpbapddpnaa

namespace Go.Proofs.Ythgjhpbapddpnaa
open Sx Go
set_option maxRecDepth 100000
def pv:ao:=⟨[.val true (.arr 6 .u64),.val true .elem,.val false .u64],[],true,0,false⟩
abbrev adG:Type:=((List (UInt64))×(ac)×(UInt64)×Unit)×(Unit)
def E4:Shape:=⟨61,[(2,.val false .u64),(3,.ptr 0 0 0),(4,.ptr 1 0 0),(6,.ptr 2 0 0),(7,.val false .u64),(13,.val false .int)],[(0,.row .u64),(1,.row .u64),(2,.row .u64)],0,true⟩
abbrev db:Type:=((UInt64)×(Unit)×(Unit)×(Unit)×(UInt64)×(Int)×Unit)×((List (UInt64))×(List (UInt64))×(List (UInt64))×Unit)
def vI:Shape:=⟨61,[(3,.ptr 0 0 0),(6,.ptr 1 0 0),(7,.val false .u64)],[(0,.row .u64),(1,.row .u64)],0,true⟩
abbrev mf:Type:=((Unit)×(Unit)×(UInt64)×Unit)×((List (UInt64))×(List (UInt64))×Unit)
def ajC:SE->Option Shape:=kv [(0,vI)] none
def atD (a2:UInt64) (a7:UInt64) (a13:Int) (c0:List (UInt64)) (c1:List (UInt64)) (c2:List (UInt64)):OT (Sum db aJ):=
 let z0:Bool:=inB a13 6
 let z1:Bool:=decide (Int.toNat a13+0<List.length c0)
 let z2:UInt64:=List.getD c1 (Int.toNat a13+0) (0:UInt64)
 let z3:UInt64:=List.getD c0 (Int.toNat a13+0) (0:UInt64)
 let z4:UInt64:=rS (z2*a2) a7 (0:UInt64)
 (.br (decide (a13<(4:Int)))
 (gd [inB a13 4,decide (Int.toNat a13+0<List.length c1),z0,z1,z0,z1,inR (a13+(1:Int))] (.ok (.inl ((a2,((),((),((),(alc z2 a2+tR (z2*a2) a7 (0:UInt64)+tR z3 z4 (0:UInt64),(a13+(1:Int),())))))),(List.set c0 (Int.toNat a13+0) (rS z3 z4 (0:UInt64)),(c1,(c2,())))))))
 (.ok (.inr ⟨(.exit 0,vI),(((),((),(a7,()))),(c0,(c2,())))⟩)))
def E5 (s:db):OT (Sum db aJ):=atD (s.1.1) (s.1.2.2.2.2.1) (s.1.2.2.2.2.2.1) (s.2.1) (s.2.2.1) (s.2.2.2.1)
theorem atA (s:db) (Q:Sum db aJ->Prop):wps te Kz ay 1000 (bk (al Try.f99) 0) (E4.inj s) (cO E4 ajC (Q:Sum E4.T aJ->Prop))=(E5 s).wpR Q:=by kernel_rfl
def MC (g0_0:db->mf) (s:db):OT aJ:=(.ok ⟨(.exit 0,vI),g0_0 s⟩)
def VL:ar:=⟨[.val true (.arr 6 .u64)],[],false⟩
def Z9:SV->Option ar:=λ_=>some VL
def ajF (ok0:db->Bool) (g0_0:db->mf) (a0:List (UInt64)) (a1:ac) (a2:UInt64):OT pv.Y:=
 let z0:(UInt64×PUnit×PUnit×PUnit×UInt64×Int×PUnit)×List UInt64×List UInt64×List UInt64×PUnit:=((a2,(),(),(),(0:UInt64),(0:Int),()),tab a0 6 (0:UInt64),[a1.w0,a1.w1,a1.w2,a1.w3],[(0:UInt64),(0:UInt64),(0:UInt64),(0:UInt64),(0:UInt64),(0:UInt64)],())
 let z1:(PUnit×PUnit×UInt64×PUnit)×List UInt64×List UInt64×PUnit:=g0_0 z0
 let z2:=z1.snd
 let z3:=z2.fst
 let z4:Bool:=decide (4<List.length z3)
 let z5:UInt64:=List.getD z3 4 0
 let z6:=z1.fst.snd.snd.fst
 let z7:List UInt64:=List.set z3 4 (rS z5 z6 (0:UInt64))
 let z8:Bool:=decide (5<List.length z7)
 let z9:List UInt64:=List.set z7 5 (List.getD z7 5 0+tR z5 z6 (0:UInt64))
 let z10:=z2.snd.fst
 let z11:List UInt64:=lay z10 z9 6 (0:UInt64)
 (gd [ok0 z0,z4,z4,z8,z8,decide (6<=List.length z9),decide ((6/1:Nat)+0<=List.length z10),decide (6<=List.length z11)] (.ok ⟨VL,((tab z11 6 (0:UInt64),()),())⟩))
theorem avK (ok0:db->Bool) (g0_0:db->mf) (x:adG) (Q:pv.Y->Prop):wpf te Kz (bu 0 (dq E4 0 ok0 (MC g0_0)) ay) 1000 Try.f99 (pv.inp.inj x).tm (pv.inp.inj x).hp (fnK pv Z9 Q) (λ_ _=>False)=(ajF ok0 g0_0 (x.1.1) (x.1.2.1) (x.1.2.2.1)).wpR Q:=by kernel_rfl
theorem ajD (ok0:db->Bool) (g0_0:db->mf) (h0:∀ s:db,ok0 s=true->∃ m e,aA (E5) m s=some e/\(MC g0_0 s).run=some e) (pre:adG->Bool) (F:adG->OT pv.Y) (hF:∀ (x:adG) oy,pre x=true->(F x).run=some oy->(ajF ok0 g0_0 (x.1.1) (x.1.2.1) (x.1.2.2.1)).run=some oy):aa Try.prog 99 (pv.aD pre F):=
 aB ap wN Ky (f:=99) (fn:=Try.f99) (c:=al Try.f99) (by kernel_rfl) (by kernel_rfl) (by kernel_rfl) (S:=pv) (k:=0) (by kernel_rfl) (λR hR=>(aH (c:=(al Try.f99)) (by kernel_rfl) (id:=0) (by kernel_rfl) (bn ap wN Ky (sh:=E4) hR (xs:=ajC) (aG (by kernel_rfl) (by kernel_rfl) hR) aV af (n:=1000) (T:=E5) (λs Q=>atA s Q) (ok:=ok0) (f:=MC g0_0) h0) af)) (n:=1000) (sel:=Z9) (λv o h=>by cases h;rfl) (pre:=pre) (F:=F) (T:=λx=>ajF ok0 g0_0 (x.1.1) (x.1.2.1) (x.1.2.2.1)) (λx Q=>avK ok0 g0_0 x Q) hF
def apa (a:List UInt64) (x:UInt64) (k:Nat) (s:List UInt64×UInt64):List UInt64×UInt64:=(s.1.set k (aum (s.1.getD k 0) (a.getD k 0) x s.2),xg (s.1.getD k 0) (a.getD k 0) x s.2)
def aab (s:db):Bool:=decide (s.1.2.2.2.2.1=0/\s.1.2.2.2.2.2.1=0/\s.2.1.length=6/\s.2.2.1.length=4)
def ajE (s:db):mf:=(((),(),(upto (apa s.2.2.1 s.1.1) (s.2.1,0) 4).2,()),((upto (apa s.2.2.1 s.1.1) (s.2.1,0) 4).1,s.2.2.2.1,()))
theorem atC:∀ s:db,aab s=true->∃ m e,aA E5 m s=some e/\(MC ajE s).run=some e:=by
 rintro ⟨⟨x,⟨⟩,⟨⟩,⟨⟩,c,i,⟨⟩⟩,⟨t,a,o,⟨⟩⟩⟩ h
 have h':=of_decide_eq_true h
 dsimp only at h'
 obtain ⟨rfl,rfl,ht,ha⟩:=h'
 have:=(bw (T:=E5) (λk s=>(((x,(),(),(),s.2,(k:Int),()),(s.1,a,o,())):db)) (apa a x)
  (λs=>(⟨(.exit 0,vI),(((),(),s.2,()),(s.1,o,()))⟩:aJ)) 4 (t,0) (λ_ s=>s.1.length=6) ht (λk s hk hs=>⟨?_,?_⟩) (λs hs=> ?_)).1
 ·obtain ⟨m,hm⟩:=this
  exact ⟨m,_,hm,rfl⟩
 ·refine (OT.au (decide_eq_true (by dsimp only;omega))).trans ((ah ?_).trans ?_)
  ·simp only [Int.toNat_natCast,Nat.add_zero,hs,ha,List.all_cons,List.all_nil,Bool.and_true,Bool.and_eq_true]
   exact ⟨bc (by omega),decide_eq_true (by omega),bc (by omega),decide_eq_true (by omega),bc (by omega),decide_eq_true (by omega),aS (by omega)⟩
  ·simp only [OT.eC,Int.toNat_natCast,Nat.add_zero]
   rfl
 ·simp only [apa,List.length_set]
  exact hs
 ·exact OT.aw (decide_eq_false (by dsimp only;omega))
def aaa (_:adG):Bool:=true
def ajG (x:adG):OT pv.Y:=.ok ⟨VL,((l6 (v6 x.1.1+x.1.2.1.nat*x.1.2.2.1.toNat),()),())⟩
theorem atB:aa Try.prog 99 (pv.aD aaa ajG):=ajD aab ajE atC _ _ λx oy hp ho=>by
 rw [<-ho]
 clear ho
 obtain ⟨⟨t,a,x,⟨⟩⟩,⟨⟩⟩:=x
 refine (ah ?_).trans ?_
 ·simp only [List.all_cons,List.all_nil,Bool.and_true,Bool.and_eq_true]
  exact ⟨rfl,rfl,rfl,rfl,rfl,rfl,rfl,rfl⟩
 ·have e:=at5 (t.getD 0 0) (t.getD 1 0) (t.getD 2 0) (t.getD 3 0) (t.getD 4 0) (t.getD 5 0) a x
  have e2:l6 (v6 t+a.nat*x.toNat)=awO (t.getD 0 0) (t.getD 1 0) (t.getD 2 0) (t.getD 3 0) (t.getD 4 0) (t.getD 5 0) a x:=e.symm
  simp only [ajG,e2]
  rfl
def E3:bI:=(pv.aD aaa ajG)
theorem adF:aa Try.prog 99 E3:=atB
theorem adE:aC E3:=ax
def KB:Env:=av 99 E3 Kz
theorem wP:aI Try.prog KB:=ag adF wN
theorem G5:aq KB:=ab adE GO
theorem KA:aP Try.prog te KB:=aF follows ap wP G5
end Go.Proofs.Ythgjhpbapddpnaa

namespace Go.Proofs.Ythgjhpbapddpnaa
open Sx Go
theorem auu {n:Nat} (h:n/18446744073709551616/18446744073709551616/18446744073709551616/18446744073709551616/18446744073709551616<18446744073709551616):v6 (l6 n)=n:=by
 unfold v6 l6
 simp only [List.getD_cons_zero,List.getD_cons_succ,UInt64.toNat_ofNat']
 rw [show (2:Nat)^64=18446744073709551616 from rfl]
 omega
def Dc (p neg a:Nat) (b t:Nat):Nat:=(t+a*b+p*((t+a*b)*neg%18446744073709551616))/18446744073709551616
theorem qz {p neg a b t:Nat} (hn:(p*neg+1)%18446744073709551616=0):18446744073709551616*Dc p neg a b t=t+a*b+p*((t+a*b)*neg%18446744073709551616):=by
 unfold Dc
 refine Nat.mul_div_cancel' (Nat.dvd_of_mod_eq_zero ?_)
 generalize t+a*b=u
 rw [Nat.add_mod,Nat.mul_mod,Nat.mod_mod,<-Nat.mul_mod,<-Nat.add_mod]
 have:u+p*(u*neg)=u*(p*neg+1):=by
  rw [Nat.mul_add,Nat.mul_one,Nat.mul_left_comm]
  omega
 rw [this,Nat.mul_mod,hn,Nat.mul_zero,Nat.zero_mod]
theorem qy {p neg a b t:Nat} (hn:(p*neg+1)%18446744073709551616=0) (ht:t<2*p) (ha:a<p) (hb:b<18446744073709551616):Dc p neg a b t<2*p:=by
 have h:=qz (a:=a) (b:=b) (t:=t) hn
 have hm:(t+a*b)*neg%18446744073709551616<=18446744073709551615:=by
  have:=Nat.mod_lt ((t+a*b)*neg) (show 0<18446744073709551616 by omega)
  omega
 have h1:p*((t+a*b)*neg%18446744073709551616)<=p*18446744073709551615:=Nat.mul_le_mul_left _ hm
 have h2:a*b<=p*18446744073709551615:=Nat.mul_le_mul (by omega) (by omega)
 omega
theorem ast {p a b t t1 m K T B M W:Nat} (h1:W*t1=t+a*b+p*m) (h2:K*T=t1+a*B+p*M):(W*K)*T=t+a*(b+W*B)+p*(m+W*M):=by
 have e:(W*K)*T=W*t1+W*(a*B)+W*(p*M):=by rw [Nat.mul_assoc,h2,Nat.mul_add,Nat.mul_add]
 rw [e,h1,Nat.mul_add,Nat.mul_add,Nat.mul_left_comm a W,Nat.mul_left_comm p W]
 omega
theorem awP {p a b T K M r:Nat} (h:K*T=a*b+p*M) (hr:K*r%p=1%p):T%p=a*b*r%p:=by
 have h1:(K*T)*r=a*b*r+p*(M*r):=by rw [h,Nat.add_mul,Nat.mul_assoc p]
 have h2:a*b*r%p=(K*T*r)%p:=by rw [h1,Nat.add_mul_mod_self_left]
 have h3:K*T*r=T*(K*r):=by rw [Nat.mul_comm K T,Nat.mul_assoc]
 rw [h2,h3,Nat.mul_mod,hr,<-Nat.mul_mod,Nat.mul_one]
def avn (p neg a:Nat) (b:ac):Nat:=Dc p neg a b.w3.toNat (Dc p neg a b.w2.toNat (Dc p neg a b.w1.toNat (Dc p neg a b.w0.toNat 0)))
theorem anD {p neg a r:Nat} {b:ac} (hn:(p*neg+1)%18446744073709551616=0) (hr:115792089237316195423570985008687907853269984665640564039457584007913129639936*r%p=1%p):avn p neg a b%p=a*b.nat*r%p:=by
 have h:=ast (qz (a:=a) (b:=b.w0.toNat) (t:=0) hn) (ast (qz (a:=a) (b:=b.w1.toNat) hn) (ast (qz (a:=a) (b:=b.w2.toNat) hn) (show 18446744073709551616*_=_+a*b.w3.toNat+p*_ from qz hn)))
 rw [Nat.zero_add] at h
 exact awP (K:=18446744073709551616*(18446744073709551616*(18446744073709551616*18446744073709551616))) h hr
theorem asZ {p neg a:Nat} {b:ac} (hn:(p*neg+1)%18446744073709551616=0) (ha:a<p):avn p neg a b<2*p:=
 qy hn (qy hn (qy hn (qy hn (by omega) ha b.w0.toNat_lt) ha b.w1.toNat_lt) ha b.w2.toNat_lt) ha b.w3.toNat_lt
theorem as0 {T p:Nat} (h:T<2*p):T%p=if T<p then T else T-p:=by
 split
 ·exact Nat.mod_eq_of_lt ‹_›
 ·rw [Nat.mod_eq_sub_mod (by omega),Nat.mod_eq_of_lt (by omega)]
end Go.Proofs.Ythgjhpbapddpnaa

namespace Go.Proofs.Ythgjhpbapddpnaa
open Sx Go
set_option maxRecDepth 100000
def iO:ao:=⟨[.val true (.prod .elem (.prod .int (.prod .u64 (.prod .u64 .elem)))),.val true .elem,.val true .elem],[],true,0,false⟩
abbrev JE:Type:=(((ac×(Int×(UInt64×(UInt64×ac)))))×(ac)×(ac)×Unit)×(Unit)
def vA:Shape:=⟨61,[(3,.ptr 0 0 0),(4,.ptr 1 0 0),(6,.ptr 2 0 0),(7,.ptr 3 0 0),(13,.val true .elem),(14,.val false .int)],[(0,.cells [.val false .u64,.val false .u64,.val false .u64,.val false .u64,.val false .int,.val false .u64,.val false .u64,.val false .u64,.val false .u64,.val false .u64,.val false .u64]),(1,.row .u64),(2,.row .u64),(3,.row .u64)],0,true⟩
abbrev cb:Type:=((Unit)×(Unit)×(Unit)×(Unit)×(ac)×(Int)×Unit)×(((UInt64)×(UInt64)×(UInt64)×(UInt64)×(Int)×(UInt64)×(UInt64)×(UInt64)×(UInt64)×(UInt64)×(UInt64)×Unit)×(List (UInt64))×(List (UInt64))×(List (UInt64))×Unit)
def qZ:Shape:=⟨61,[(3,.ptr 0 0 0),(6,.ptr 1 0 0),(7,.ptr 2 0 0)],[(0,.cells [.val false .u64,.val false .u64,.val false .u64,.val false .u64,.val false .int,.val false .u64,.val false .u64,.val false .u64,.val false .u64,.val false .u64,.val false .u64]),(1,.row .u64),(2,.row .u64)],0,true⟩
abbrev ka:Type:=((Unit)×(Unit)×(Unit)×Unit)×(((UInt64)×(UInt64)×(UInt64)×(UInt64)×(Int)×(UInt64)×(UInt64)×(UInt64)×(UInt64)×(UInt64)×(UInt64)×Unit)×(List (UInt64))×(List (UInt64))×Unit)
def ZP:SE->Option Shape:=kv [(0,qZ)] none
def Mi (a13:ac) (a14:Int) (c0_0:UInt64) (c0_1:UInt64) (c0_2:UInt64) (c0_3:UInt64) (c0_4:Int) (c0_5:UInt64) (c0_6:UInt64) (c0_7:UInt64) (c0_8:UInt64) (c0_9:UInt64) (c0_10:UInt64) (c1:List (UInt64)) (c2:List (UInt64)) (c3:List (UInt64)):OT (Sum cb aJ):=
 let z0:Nat:=List.length c3
 let z1:List UInt64:=lay c3 (l6 (v6 (tab c3 6 (0:UInt64))+ac.nat {w0:=List.getD c1 0 0,w1:=List.getD c1 1 0,w2:=List.getD c1 2 0,w3:=List.getD c1 3 0}*UInt64.toNat (List.getD [a13.w0,a13.w1,a13.w2,a13.w3] (Int.toNat a14) (0:UInt64)))) 6 (0:UInt64)
 let z2:Nat:=List.length z1
 let z3:List UInt64:=lay z1 (l6 (v6 (tab z1 6 (0:UInt64))+ac.nat {w0:=c0_0,w1:=c0_1,w2:=c0_2,w3:=c0_3}*UInt64.toNat (List.getD z1 0 0*c0_6))) 6 (0:UInt64)
 let z4:Nat:=List.length z3
 (.br (decide (a14<(4:Int)))
 (gd [inB a14 4,decide (6<=z0),decide (4<=List.length c1),decide ((6/1:Nat)+0<=z0),decide (6<=z2),decide (0<z2),decide ((6/1:Nat)+0<=z2),decide (1<z4),decide (2<z4),decide (3<z4),decide (4<z4),decide (5<z4),decide ((6/1:Nat)+0<=z4),inR (a14+(1:Int))] (.ok (.inl (((),((),((),((),(a13,(a14+(1:Int),())))))),((c0_0,(c0_1,(c0_2,(c0_3,(c0_4,(c0_5,(c0_6,(c0_7,(c0_8,(c0_9,(c0_10,()))))))))))),(c1,(c2,(List.set (List.set (List.set (List.set (List.set (List.set z3 0 (List.getD z3 1 0)) 1 (List.getD z3 2 0)) 2 (List.getD z3 3 0)) 3 (List.getD z3 4 0)) 4 (List.getD z3 5 0)) 5 (0:UInt64),()))))))))
 (.ok (.inr ⟨(.exit 0,qZ),(((),((),((),()))),((c0_0,(c0_1,(c0_2,(c0_3,(c0_4,(c0_5,(c0_6,(c0_7,(c0_8,(c0_9,(c0_10,()))))))))))),(c2,(c3,()))))⟩)))
def vB (s:cb):OT (Sum cb aJ):=Mi (s.1.2.2.2.2.1) (s.1.2.2.2.2.2.1) (s.2.1.1) (s.2.1.2.1) (s.2.1.2.2.1) (s.2.1.2.2.2.1) (s.2.1.2.2.2.2.1) (s.2.1.2.2.2.2.2.1) (s.2.1.2.2.2.2.2.2.1) (s.2.1.2.2.2.2.2.2.2.1) (s.2.1.2.2.2.2.2.2.2.2.1) (s.2.1.2.2.2.2.2.2.2.2.2.1) (s.2.1.2.2.2.2.2.2.2.2.2.2.1) (s.2.2.1) (s.2.2.2.1) (s.2.2.2.2.1)
theorem aob (s:cb) (Q:Sum cb aJ->Prop):wps te KB ay 1000 (bk (al Try.f94) 0) (vA.inj s) (cO vA ZP (Q:Sum vA.T aJ->Prop))=(vB s).wpR Q:=by kernel_rfl
def Cc (g0_0:cb->ka) (s:cb):OT aJ:=(.ok ⟨(.exit 0,qZ),g0_0 s⟩)
def qY:ar:=⟨[.val true .elem],[],false⟩
def Qg:SV->Option ar:=λ_=>some qY
def Vq (ok0:cb->Bool) (g0_0:cb->ka) (a0:(ac×(Int×(UInt64×(UInt64×ac))))) (a1:ac) (a2:ac):OT iO.Y:=
 let z0:(PUnit×PUnit×PUnit×PUnit×ac×Int×PUnit)×(UInt64×UInt64×UInt64×UInt64×Int×UInt64×UInt64×UInt64×UInt64×UInt64×UInt64×PUnit)×List UInt64×List UInt64×List UInt64×PUnit:=(((),(),(),(),a2,(0:Int),()),(a0.fst.w0,a0.fst.w1,a0.fst.w2,a0.fst.w3,a0.snd.fst,a0.snd.snd.fst,a0.snd.snd.snd.fst,a0.snd.snd.snd.snd.w0,a0.snd.snd.snd.snd.w1,a0.snd.snd.snd.snd.w2,a0.snd.snd.snd.snd.w3,()),[a1.w0,a1.w1,a1.w2,a1.w3],[(0:UInt64),(0:UInt64),(0:UInt64),(0:UInt64)],[(0:UInt64),(0:UInt64),(0:UInt64),(0:UInt64),(0:UInt64),(0:UInt64)],())
 let z1:=(g0_0 z0).snd
 let z2:=z1.snd
 let z3:=z2.snd.fst
 let z4:Nat:=List.length z3
 let z5:=z2.fst
 let z6:Nat:=List.length z5
 let z7:Bool:=decide ((4/1:Nat)+0<=z6)
 let z8:=z1.fst
 let z9:=z8.snd
 let z10:=z9.snd
 let z11:ac×Bool:=fo {w0:=List.getD z3 0 0,w1:=List.getD z3 1 0,w2:=List.getD z3 2 0,w3:=List.getD z3 3 0} {w0:=z8.fst,w1:=z9.fst,w2:=z10.fst,w3:=z10.snd.fst}
 let z12:=z11.fst
 let z13:List UInt64:=List.set (List.set (List.set (List.set z5 0 z12.w0) 1 z12.w1) 2 z12.w2) 3 z12.w3
 let z14:Bool:=decide (4<=List.length z13)
 let z15:ac:= {w0:=List.getD z13 0 0,w1:=List.getD z13 1 0,w2:=List.getD z13 2 0,w3:=List.getD z13 3 0}
 let z16:List UInt64:=lay z5 z3 4 (0:UInt64)
 (gd [ok0 z0,decide (6<=z4)&&true,decide (4<=z4),decide (4<z4)] (.br (!List.getD z3 4 0==(0:UInt64))
 (gd [z7,z14] (.ok ⟨qY,((z15,()),())⟩))
 (.br (!z11.snd)
  (gd [z7,z14] (.ok ⟨qY,((z15,()),())⟩))
  (gd [decide ((4/1:Nat)+0<=z6),decide (4<=List.length z16)] (.ok ⟨qY,(({w0:=List.getD z16 0 0,w1:=List.getD z16 1 0,w2:=List.getD z16 2 0,w3:=List.getD z16 3 0},()),())⟩)))))
theorem ate (ok0:cb->Bool) (g0_0:cb->ka) (x:JE) (Q:iO.Y->Prop):wpf te KB (bu 0 (dq vA 0 ok0 (Cc g0_0)) ay) 1000 Try.f94 (iO.inp.inj x).tm (iO.inp.inj x).hp (fnK iO Qg Q) (λ_ _=>False)=(Vq ok0 g0_0 (x.1.1) (x.1.2.1) (x.1.2.2.1)).wpR Q:=by kernel_rfl
theorem ac0 (ok0:cb->Bool) (g0_0:cb->ka) (h0:∀ s:cb,ok0 s=true->∃ m e,aA (vB) m s=some e/\(Cc g0_0 s).run=some e) (pre:JE->Bool) (F:JE->OT iO.Y) (hF:∀ (x:JE) oy,pre x=true->(F x).run=some oy->(Vq ok0 g0_0 (x.1.1) (x.1.2.1) (x.1.2.2.1)).run=some oy):aa Try.prog 94 (iO.aD pre F):=
 aB ap wP KA (f:=94) (fn:=Try.f94) (c:=al Try.f94) (by kernel_rfl) (by kernel_rfl) (by kernel_rfl) (S:=iO) (k:=0) (by kernel_rfl) (λR hR=>(aH (c:=(al Try.f94)) (by kernel_rfl) (id:=0) (by kernel_rfl) (bn ap wP KA (sh:=vA) hR (xs:=ZP) (aG (by kernel_rfl) (by kernel_rfl) hR) aV af (n:=1000) (T:=vB) (λs Q=>aob s Q) (ok:=ok0) (f:=Cc g0_0) h0) af)) (n:=1000) (sel:=Qg) (λv o h=>by cases h;rfl) (pre:=pre) (F:=F) (T:=λx=>Vq ok0 g0_0 (x.1.1) (x.1.2.1) (x.1.2.2.1)) (λx Q=>ate ok0 g0_0 x Q) hF
def iL (n:HT):Bool:=decide (n=aL 2)||decide (n=aL 3)
theorem gx {n:HT} (h:iL n=true):n=aL 2\/n=aL 3:=by
 simpa [iL] using h
def am3 (n:HT):Nat:=if n.2.2.2.1==11037532056220336127 then 15353493766103302224812374511606760489073247795810767472367693728416386214313 else 14238205147845459960272226733876560297615832660064601289232577236146637664127
theorem aiY {n:HT} (h:iL n=true):(n.1.nat*n.2.2.2.1.toNat+1)%18446744073709551616=0:=by
 rcases gx h with rfl|rfl<;>decide+kernel
theorem aiZ {n:HT} (h:iL n=true):115792089237316195423570985008687907853269984665640564039457584007913129639936*am3 n%n.1.nat=1%n.1.nat:=by
 rcases gx h with rfl|rfl<;>decide+kernel
theorem aiW {n:HT} (h:iL n=true):2*n.1.nat<=115792089237316195423570985008687907853269984665640564039457584007913129639936:=by
 rcases gx h with rfl|rfl<;>decide+kernel
theorem awF (n:Nat):tab (l6 n) 6 0=l6 n:=rfl
theorem anM {n:Nat} (h:n/18446744073709551616/18446744073709551616/18446744073709551616/18446744073709551616/18446744073709551616/18446744073709551616=0):
 [UInt64.ofNat (n/18446744073709551616),UInt64.ofNat (n/18446744073709551616/18446744073709551616),UInt64.ofNat (n/18446744073709551616/18446744073709551616/18446744073709551616),
  UInt64.ofNat (n/18446744073709551616/18446744073709551616/18446744073709551616/18446744073709551616),UInt64.ofNat (n/18446744073709551616/18446744073709551616/18446744073709551616/18446744073709551616/18446744073709551616),0]=l6 (n/18446744073709551616):=by
 unfold l6
 rw [h]
 rfl
theorem awI (a b:Nat):lay (l6 a) (l6 b) 6 0=l6 b:=PJ rfl rfl
theorem alj (U:Nat) (neg:UInt64):(List.getD (l6 U) 0 0*neg).toNat=U*neg.toNat%18446744073709551616:=by
 show (UInt64.ofNat U*neg).toNat=_
 rw [UInt64.toNat_mul,UInt64.toNat_ofNat',Nat.mul_mod,Nat.mod_mod,<-Nat.mul_mod]
theorem acZ (b:ac) (k:Nat) (hk:k<4) (x0 x1 x2 x3 x5 x6 x7 x8 x9 x10:UInt64) (x4:Int) (c1 c2:List UInt64) (T:Nat) (h1:c1.length=4) (hT:T<2*(ac.mk x0 x1 x2 x3).nat)
 (hn:((ac.mk x0 x1 x2 x3).nat*x6.toNat+1)%18446744073709551616=0) (hp:2*(ac.mk x0 x1 x2 x3).nat<=115792089237316195423570985008687907853269984665640564039457584007913129639936) (ha:(elemOf c1).nat<(ac.mk x0 x1 x2 x3).nat):
 (Mi b (k:Int) x0 x1 x2 x3 x4 x5 x6 x7 x8 x9 x10 c1 c2 (l6 T)).run=some (.inl (((),(),(),(),b,((k+1:Nat):Int),()),((x0,x1,x2,x3,x4,x5,x6,x7,x8,x9,x10,()),c1,c2,l6 (Dc (ac.mk x0 x1 x2 x3).nat x6.toNat (elemOf c1).nat ((lst b).getD k 0).toNat T),()))):=by
 have hlt:=qy (b:=((lst b).getD k 0).toNat) hn hT ha (UInt64.toNat_lt _)
 have heq:=qz (a:=(elemOf c1).nat) (b:=((lst b).getD k 0).toNat) (t:=T) hn
 have hrd:Dc (ac.mk x0 x1 x2 x3).nat x6.toNat (elemOf c1).nat ((lst b).getD k 0).toNat T=(T+(elemOf c1).nat*((lst b).getD k 0).toNat+(ac.mk x0 x1 x2 x3).nat*((T+(elemOf c1).nat*((lst b).getD k 0).toNat)*x6.toNat%18446744073709551616))/18446744073709551616:=rfl
 generalize hU:T+(elemOf c1).nat*((lst b).getD k 0).toNat=U at heq hrd
 generalize hV:U+(ac.mk x0 x1 x2 x3).nat*(U*x6.toNat%18446744073709551616)=V at heq hrd
 generalize Dc (ac.mk x0 x1 x2 x3).nat x6.toNat (elemOf c1).nat ((lst b).getD k 0).toNat T=S at*
 have hVU:U<=V:=by rw [<-hV];exact Nat.le_add_right _ _
 have hz1:lay (l6 T) (l6 (v6 (tab (l6 T) 6 0)+ac.nat {w0:=List.getD c1 0 0,w1:=List.getD c1 1 0,w2:=List.getD c1 2 0,w3:=List.getD c1 3 0}*UInt64.toNat (List.getD [b.w0,b.w1,b.w2,b.w3] (Int.toNat (k:Int)) 0))) 6 0=l6 U:=by
  rw [awF,auu (by omega),awI,Int.toNat_natCast]
  exact congrArg l6 hU
 have hz3:lay (l6 U) (l6 (v6 (tab (l6 U) 6 0)+ac.nat {w0:=x0,w1:=x1,w2:=x2,w3:=x3}*UInt64.toNat (List.getD (l6 U) 0 0*x6))) 6 0=l6 V:=by
  rw [awF,auu (by omega),awI,alj,hV]
 have hsh:_=l6 (V/18446744073709551616):=anM (n:=V) (by omega)
 unfold Mi
 simp only [hz1,hz3]
 refine (OT.au (decide_eq_true (by omega))).trans ((ah ?_).trans ?_)
 ·simp only [aiy,h1,List.all_cons,List.all_nil,Bool.and_true,Bool.and_eq_true]
  exact ⟨bc (by omega),rfl,rfl,rfl,rfl,rfl,rfl,rfl,rfl,rfl,rfl,rfl,rfl,aS (by omega)⟩
 ·rw [hrd]
  exact congrArg (λl=>some (Sum.inl (((),(),(),(),b,((k+1:Nat):Int),()),((x0,x1,x2,x3,x4,x5,x6,x7,x8,x9,x10,()),c1,c2,l,())))) hsh
def ake (s:cb):ac:=⟨s.2.1.1,s.2.1.2.1,s.2.1.2.2.1,s.2.1.2.2.2.1⟩
def atR (s:cb):UInt64:=s.2.1.2.2.2.2.2.2.1
def Qh (s:cb):Bool:=decide (s.1.2.2.2.2.2.1=0/\s.2.2.1.length=4/\s.2.2.2.2.1=l6 0/\((ake s).nat*(atR s).toNat+1)%18446744073709551616=0/\2*(ake s).nat<=115792089237316195423570985008687907853269984665640564039457584007913129639936/\(elemOf s.2.2.1).nat<(ake s).nat)
def Mh (s:cb):ka:=(((),(),(),()),(s.2.1,s.2.2.2.1,l6 (avn (ake s).nat (atR s).toNat (elemOf s.2.2.1).nat s.1.2.2.2.2.1),()))
theorem aod:∀ s:cb,Qh s=true->∃ m e,aA vB m s=some e/\(Cc Mh s).run=some e:=by
 rintro ⟨⟨⟨⟩,⟨⟩,⟨⟩,⟨⟩,b,i,⟨⟩⟩,⟨⟨x0,x1,x2,x3,x4,x5,x6,x7,x8,x9,x10,⟨⟩⟩,c1,c2,c3,⟨⟩⟩⟩ h
 have h':=of_decide_eq_true h
 dsimp only [ake,atR] at h'
 obtain ⟨rfl,h1,rfl,hn,hp,ha⟩:=h'
 have:=(bw (T:=vB) (λk T=>((((),(),(),(),b,(k:Int),()),((x0,x1,x2,x3,x4,x5,x6,x7,x8,x9,x10,()),c1,c2,l6 T,())):cb)) (λk T=>Dc (ac.mk x0 x1 x2 x3).nat x6.toNat (elemOf c1).nat ((lst b).getD k 0).toNat T)
  (λT=>(⟨(.exit 0,qZ),(((),(),(),()),((x0,x1,x2,x3,x4,x5,x6,x7,x8,x9,x10,()),c2,l6 T,()))⟩:aJ)) 4 0 (λ_ T=>T<2*(ac.mk x0 x1 x2 x3).nat) (by omega) (λk T hk hT=>⟨?_,?_⟩) (λT hT=> ?_)).1
 ·obtain ⟨m,hm⟩:=this
  exact ⟨m,_,hm,rfl⟩
 ·exact acZ b k hk x0 x1 x2 x3 x5 x6 x7 x8 x9 x10 x4 c1 c2 T h1 hT hn hp ha
 ·exact qy hn hT ha (UInt64.toNat_lt _)
 ·exact OT.aw (decide_eq_false (by dsimp only;omega))
def pb (x:JE):Bool:=iL x.1.1&&Nat.blt x.1.2.1.nat x.1.1.1.nat
def ai5 (x:JE):OT iO.Y:=.ok ⟨qY,((ofN (x.1.2.1.nat*x.1.2.2.1.nat*am3 x.1.1%x.1.1.1.nat),()),())⟩
theorem aoc:aa Try.prog 94 (iO.aD pb ai5):=ac0 Qh Mh aod _ _ λx oy hp ho=>by
 rw [<-ho]
 clear ho
 obtain ⟨⟨⟨⟨m0,m1,m2,m3⟩,ad,sm,neg,sq⟩,a,b,⟨⟩⟩,⟨⟩⟩:=x
 have hp':(iL (⟨m0,m1,m2,m3⟩,ad,sm,neg,sq)&&Nat.blt a.nat (ac.mk m0 m1 m2 m3).nat)=true:=hp
 rw [Bool.and_eq_true] at hp'
 obtain ⟨hg,ha⟩:=hp'
 have ha:=dA ha
 have hn:((ac.mk m0 m1 m2 m3).nat*neg.toNat+1)%18446744073709551616=0:=aiY hg
 have h2:2*(ac.mk m0 m1 m2 m3).nat<=115792089237316195423570985008687907853269984665640564039457584007913129639936:=aiW hg
 have hr:115792089237316195423570985008687907853269984665640564039457584007913129639936*am3 (⟨m0,m1,m2,m3⟩,ad,sm,neg,sq)%(ac.mk m0 m1 m2 m3).nat=1%(ac.mk m0 m1 m2 m3).nat:=aiZ hg
 have hM:=anD (a:=a.nat) (b:=b) hn hr
 have hL:=asZ (b:=b) hn ha
 refine (ah ?_).trans ?_
 ·simp only [List.all_cons,List.all_nil,Bool.and_true,Bool.and_eq_true]
  exact ⟨decide_eq_true ⟨rfl,rfl,rfl,hn,h2,ha⟩,rfl,rfl,rfl⟩
 ·show _=(OT.ok ⟨qY,((ofN (a.nat*b.nat*am3 (⟨m0,m1,m2,m3⟩,ad,sm,neg,sq)%(ac.mk m0 m1 m2 m3).nat),()),())⟩:OT iO.Y).run
  rw [<-hM,as0 hL]
  have e0:Mh (((),(),(),(),b,0,()),((m0,m1,m2,m3,ad,sm,neg,sq.w0,sq.w1,sq.w2,sq.w3,()),[a.w0,a.w1,a.w2,a.w3],[0,0,0,0],[0,0,0,0,0,0],()))=(((),(),(),()),((m0,m1,m2,m3,ad,sm,neg,sq.w0,sq.w1,sq.w2,sq.w3,()),[0,0,0,0],l6 (avn (ac.mk m0 m1 m2 m3).nat neg.toNat a.nat b),())):=rfl
  dsimp only
  rw [e0]
  clear e0 hM
  generalize avn (ac.mk m0 m1 m2 m3).nat neg.toNat a.nat b=M at*
  have e4:List.getD (l6 M) 4 0=0:=by
   show UInt64.ofNat (M/18446744073709551616/18446744073709551616/18446744073709551616/18446744073709551616)=0
   rw [show M/18446744073709551616/18446744073709551616/18446744073709551616/18446744073709551616=0 by omega]
   rfl
  refine (OT.aw (by rw [e4];rfl)).trans ?_
  have eN:(ofN M).nat=M:=iJ (by omega)
  by_cases hlt:M<(ac.mk m0 m1 m2 m3).nat
  ·rw [if_pos hlt]
   refine (OT.aw ?_).trans ((ah rfl).trans rfl)
   show (!Nat.blt (ofN M).nat (ac.mk m0 m1 m2 m3).nat)=false
   rw [eN,show Nat.blt M (ac.mk m0 m1 m2 m3).nat=true from Nat.ble_eq_true_of_le hlt]
   rfl
  ·rw [if_neg hlt]
   refine (OT.au ?_).trans ((ah rfl).trans ?_)
   ·show (!Nat.blt (ofN M).nat (ac.mk m0 m1 m2 m3).nat)=true
    rw [eN]
    cases hb:Nat.blt M (ac.mk m0 m1 m2 m3).nat
    ·rfl
    ·exact absurd (dA hb) hlt
   ·have ew:(fo (ofN M) (ac.mk m0 m1 m2 m3)).1=ofN (M-(ac.mk m0 m1 m2 m3).nat):=by
     apply jZ
     rw [kC (by omega),eN,iJ (by omega)]
    rw [<-ew]
    rfl
def yL:bI:=(iO.aD pb ai5)
theorem Vp:aa Try.prog 94 yL:=aoc
theorem Vo:aC yL:=ax
def GL:Env:=av 94 yL KB
theorem zS:aI Try.prog GL:=ag Vp wP
theorem Bp:aq GL:=ab Vo G5
theorem WX:aP Try.prog te GL:=aF follows ap zS Bp
end Go.Proofs.Ythgjhpbapddpnaa
