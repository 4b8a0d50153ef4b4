/- A symbolic machine for Go code over plain data, and functions of the program as it shows them. No statement is proved in this file. -/
import Derived.ProofKit
import Derived.Below
import Derived.OpenShut
import Derived.SizedLaws
import Derived.WalkKit
import Derived.ChangeOld
import Derived.Test.YtohjofabochgfaaProg
import Derived.KernelRfl
import Derived.Test.YtohjofabochgfaaXb
set_option linter.unusedSimpArgs false
set_option linter.unusedVariables false
set_option linter.unusedSectionVars false

namespace Go.Proofs.Ytohjofabochgfaa
namespace Sx
open Go
theorem kc : ∀ {l : List (Nat × Sh)} {x : SlT l} {tm : List SV}, (eB l x tm).length = tm.length
  | [], _, _ => rfl
  | c :: r, x, tm => by simp only [eB, kc, List.length_set]
theorem sF : ∀ {rs : List Sh} {i j : Nat} {x : SlT (indexed j rs)} {tm : List SV}, i < j → (eB (indexed j rs) x tm)[i]? = tm[i]?
  | [], _, _, _, _, _ => rfl
  | s :: r, i, j, x, tm, h => by
    simp only [indexed, eB]
    refine (sF (rs := r) (i := i) (j := j + 1) (x := x.2) (by omega)).trans ?_
    rw [List.getElem?_set_ne (by omega)]
theorem oK {N R : Ctx} {ν : Nm} {lists : Bool} (hr : NQ N R ν lists) : ∀ {rs : List Sh} (_ : lists = true ∨ rs.any Sh.cy = false) {i : Nat} {y : SlT (indexed i rs)} {tm : List SV} {us : List Value}, tm.length = i + rs.length →
    SV.bA N (eB (indexed i rs) y tm) us → SV.bA R (ao.emit.go ν i rs y) (us.drop i)
  | [], _, i, y, tm, us, hl, h => by
    have := SV.aM h
    simp only [indexed, eB] at this
    simp only [List.length_nil] at hl
    simp only [ao.emit.go]
    rw [List.drop_eq_nil_of_le (by omega)]
    exact qU
  | s :: r, hl', i, y, tm, us, hl, h => by
    have h1 : lists = true ∨ s.cy = false := hl'.imp_right fun e => by simp only [List.any_cons, Bool.or_eq_false_iff] at e; exact e.1
    have h2 : lists = true ∨ r.any Sh.cy = false := hl'.imp_right fun e => by simp only [List.any_cons, Bool.or_eq_false_iff] at e; exact e.2
    simp only [List.length_cons] at hl
    have hlen := SV.aM h
    rw [kc] at hlen
    have hi : i < us.length := by omega
    have ih := oK hr h2 (i := i + 1) (y := y.2) (tm := tm.set i (pj s y.1)) (us := us) (by rw [List.length_set]; omega) h
    have hi2 : i < (eB (indexed i (s :: r)) y tm).length := by rw [kc]; omega
    have hv := SV.kN h i hi2 hi
    have hg : (eB (indexed i (s :: r)) y tm)[i] = pj s y.1 := by
      have : (eB (indexed i (s :: r)) y tm)[i]? = some (pj s y.1) := by
        simp only [indexed, eB]
        refine (sF (rs := r) (i := i) (j := i + 1) (x := y.2) (by omega)).trans ?_
        rw [List.getElem?_set_self (by omega)]
      rw [List.getElem?_eq_getElem hi2] at this
      exact Option.some.inj this
    rw [hg] at hv
    simp only [ao.emit.go]
    rw [List.drop_eq_getElem_cons hi]
    simp only [SV.bA]
    exact ⟨_, _, rfl, OY hr h1 hv, ih⟩
theorem FW {ν : Nm} : ∀ {rs : List Sh} {i : Nat} {y : SlT (indexed i rs)}, (ao.emit.go ν i rs y).length = rs.length
  | [], _, _ => rfl
  | s :: r, i, y => by simp only [ao.emit.go, List.length_cons, FW]
theorem alV {R : Ctx} {n : Nat} {x : SV} {v : Value} {l : List SV} (hv : SV.rel R x v) (hn : (af6 n x).length = n) (hl : l.length = n) : ∃ us, SV.bA R (af6 n x) us ∧ ∀ R', SV.bA R' l us → SV.rel R' (oneOf l) v := by
  unfold af6 at hn ⊢
  cases hb : Nat.beq n 1
  · rw [hb] at hn
    simp only [cond_false] at hn ⊢
    have hne : n ≠ 1 := fun e => by subst e; cases hb
    cases x <;> simp only [List.length_replicate] at hn ⊢ <;> try omega
    case tup q =>
      simp only [SV.rel] at hv
      obtain ⟨vs, rfl, h1⟩ := hv
      refine ⟨vs, h1, fun R' h2 => ?_⟩
      cases l with
      | nil => simp only [oneOf, SV.rel]; exact ⟨vs, rfl, h2⟩
      | cons a l =>
        cases l with
        | nil => simp at hl; omega
        | cons b l => simp only [oneOf, SV.rel]; exact ⟨vs, rfl, h2⟩
  · have := Nat.eq_of_beq_eq_true hb
    subst this
    simp only [cond_true]
    refine ⟨[v], aW hv, fun R' h2 => ?_⟩
    cases l with
    | nil => simp at hl
    | cons a l =>
      cases l with
      | nil =>
        simp only [oneOf]
        obtain ⟨v', e, h⟩ := cf h2
        cases e
        exact h
      | cons b l => simp at hl
section
variable {P : Program} {te : TE} {Φ : Env} (hte : li P te) (hΦ : aN P Φ) (hany : aU P te Φ)
theorem aik {R N1 : Ctx} {w w' : World} {S : ao} {args : List SV} {x : S.T} {k d : Nat} (hm : cP R w) (hx : S.inp.prj ⟨args, R.hp⟩ = some x)
    (hk : S.chunks.all (fun c => Nat.blt c.1 k && !c.2.wl) = true)
    (h1 : (R.named (R.Bw (S.inp.bd ⟨args, R.hp⟩) S.bB w) (R.HV (S.inp.bd ⟨args, R.hp⟩) S.bB w) (S.inp.bd ⟨args, R.hp⟩) (dE S.chunks x.2)).Ext N1) (hm1 : cP N1 w') {o : ar} {y : (o.shape S.fixed).T} {pan : Bool} {v : SV} {u : Value}
    (hv : SV.rel N1 v u) (hy : o.is y pan v N1.hp) (hend : S.ua (S.inp.bd ⟨args, R.hp⟩) R.hp (fresh R.hp d) o = true) :
    ∃ R', cU R R' w' (cL (S.inp.bd ⟨args, R.hp⟩) R.hp S.fixed S.chunks ++ jF (S.nm (S.inp.bd ⟨args, R.hp⟩) R.hp (fresh R.hp d)) o.chunks y.2) ∧
      SV.rel R' (oneOf (ao.emit.indexedN (S.nm (S.inp.bd ⟨args, R.hp⟩) R.hp (fresh R.hp d)) o.rs y.1)) u := by
  obtain ⟨_, hy⟩ := hy
  unfold Shape.prj at hx
  dsimp only at hx
  generalize hbd : S.inp.bd ⟨args, R.hp⟩ = bd at *
  cases hb : S.inp.HF ⟨args, R.hp⟩ bd && Nat.beq args.length S.inp.n
  · rw [hb] at hx; cases hx
  · rw [hb] at hx
    rw [Bool.and_eq_true] at hb
    obtain ⟨hx1, hx2⟩ := bp hx
    have hy' := hy
    unfold Shape.prj at hy'
    dsimp only at hy'
    cases hb2 : (o.shape S.fixed).HF ⟨af6 o.rs.length v, N1.hp⟩ ((o.shape S.fixed).bd ⟨af6 o.rs.length v, N1.hp⟩) && Nat.beq (af6 o.rs.length v).length (o.shape S.fixed).n
    · rw [hb2] at hy'; cases hy'
    · rw [hb2] at hy'
      rw [Bool.and_eq_true] at hb2
      obtain ⟨hy1, hy2⟩ := bp hy'
      have hlen : (af6 o.rs.length v).length = o.rs.length := Nat.eq_of_beq_eq_true hb2.2
      obtain ⟨us, hus, hback⟩ := alV (l := ao.emit.indexedN (S.nm bd R.hp (fresh R.hp d)) o.rs y.1) hv hlen FW
      have hsm : Small ((R.named (R.Bw bd S.bB w) (R.HV bd S.bB w) bd (dE S.chunks x.2)).atz S.fixed) (o.shape S.fixed).fixed := fun c ch hc => by
        replace hc : cond (Nat.blt c S.fixed) (dE S.chunks x.2 c) none = some ch := hc
        cases hq : Nat.blt c S.fixed
        · rw [hq] at hc; cases hc
        · rw [hq] at hc
          refine ⟨dB hq, ?_⟩
          obtain ⟨s, y', g1, g2, g3⟩ := dQ hx2 (hc : dE S.chunks x.2 c = some ch)
          have := (List.all_eq_true.1 hk) _ g1
          simp only [Bool.and_eq_true, Bool.not_eq_true'] at this
          rw [g3]
          cases s <;> first | rfl | (cases this.2; done)
      have hext : ((R.named (R.Bw bd S.bB w) (R.HV bd S.bB w) bd (dE S.chunks x.2)).atz S.fixed).Ext N1 := ⟨h1.F, h1.U, fun c ch hc => by
        replace hc : cond (Nat.blt c S.fixed) (dE S.chunks x.2 c) none = some ch := hc
        cases hq : Nat.blt c S.fixed
        · rw [hq] at hc; cases hc
        · rw [hq] at hc
          exact h1.ch c ch hc⟩
      obtain ⟨N2, g1, g2⟩ := Shape.at0 (s := o.shape S.fixed) (a := { tmps := us.toArray, defers := [] }) hsm hext ⟨rfl, hm1, hus, rfl⟩ hy
      have hd2 : distinct (o.chunks.map (·.1)) = true := by
        have := hb2.1
        unfold Shape.HF at this
        simp only [Bool.and_eq_true] at this
        exact this.1.1.1
      have H : uS R w w' S args bd x.2 N2 o y.2 (fresh R.hp d) := ⟨hm, hb.1, hx2, g1, g2.mem, g2.hp, ⟨_, _, _, hy2⟩, hd2, hend⟩
      refine ⟨R.dC bd w S N2 o y.2 (fresh R.hp d), ada H, hback _ ?_⟩
      have ht := g2.tm
      have := oK (af8 H) (rs := o.rs) ?_ (i := 0) (y := y.1) (tm := List.replicate o.rs.length .bT) (us := us) (by simp) ht
      · exact this
      · rcases nL H with h | h
        · exact .inl (by rw [h]; rfl)
        · exact .inr h.1
include hte hΦ hany
theorem amR {f : FuncId} {fn : Func} {c : Code} (hf : P.funcs[f]? = some fn) (hb : fn.body = some c) (hname : (fn.name == "runtime.NumGoroutine") = false) {S : ao} {k : Nat} (hk : S.chunks.all (fun c => Nat.blt c.1 k && !c.2.wl) = true) {Λ : Lam}
    (hΛ : ∀ R, Small R k → Aw P R Λ c) {n : Nat} {pre : S.T → Bool} {F : S.T → OT S.Y}
    (h : ∀ x oy, pre x = true → (F x).run = some oy → ∃ K Kp, wpf te Φ Λ n fn (S.inp.inj x).tm (S.inp.inj x).hp K Kp ∧ (∀ v hp, K v hp → oy.1.is oy.2 false v hp) ∧ ∀ v hp, Kp v hp → oy.1.is oy.2 true v hp) : aa P f (S.aE pre F) := by
  refine ⟨?_⟩
  intro R w d args vs out hm hr hrun
  refine .inl ⟨fn, hf, hname, by rw [hb]; rfl, ?_⟩
  simp only [ao.aE] at hrun
  split at hrun
  · cases hrun
  · rename_i x hx
    obtain ⟨hpre, h2⟩ := OT.aD hrun
    obtain ⟨oy, h3, h4⟩ := OT.run_bind h2
    unfold ao.emit at h4
    dsimp only at h4
    obtain ⟨hend, h5⟩ := OT.aD h4
    obtain ⟨K, Kp, hwp, hK1, hK2⟩ := h x oy hpre h3
    have hx' := hx
    unfold Shape.prj at hx'
    dsimp only at hx'
    cases hbo : S.inp.HF ⟨args, R.hp⟩ (S.inp.bd ⟨args, R.hp⟩) && Nat.beq args.length S.inp.n
    · rw [hbo] at hx'; cases hx'
    · rw [hbo] at hx'
      rw [Bool.and_eq_true] at hbo
      obtain ⟨hx1, hx2⟩ := bp hx'
      have hlen : args.length = S.inp.n := Nat.eq_of_beq_eq_true hbo.2
      have hN := Mu (s := S.inp) (st := ⟨args, R.hp⟩) (F' := R.Bw (S.inp.bd ⟨args, R.hp⟩) S.bB w) (U' := R.HV (S.inp.bd ⟨args, R.hp⟩) S.bB w) hbo.1 hx2 rfl hm (Qw hm) (MD hm) ahH (Qv hm) Qu an9 hm.env
      have hargs : SV.bA (R.named (R.Bw (S.inp.bd ⟨args, R.hp⟩) S.bB w) (R.HV (S.inp.bd ⟨args, R.hp⟩) S.bB w) (S.inp.bd ⟨args, R.hp⟩) (dE S.chunks x.2)) (S.inp.inj x).tm vs :=
        kV (s := S.inp) (st := ⟨args, R.hp⟩) hbo.1 hx2 rfl hm (Qw hm) (MD hm) hr hx1 (SV.yW (by rw [List.length_replicate, ← hlen]; exact SV.aM hr) fun i hi hi' => by simp [SV.rel])
      have hsm : Small (R.named (R.Bw (S.inp.bd ⟨args, R.hp⟩) S.bB w) (R.HV (S.inp.bd ⟨args, R.hp⟩) S.bB w) (S.inp.bd ⟨args, R.hp⟩) (dE S.chunks x.2)) k := fun c ch hc => by
        obtain ⟨s, y', g1, g2, g3⟩ := dQ hx2 (hc : dE S.chunks x.2 c = some ch)
        have := (List.all_eq_true.1 hk) _ g1
        simp only [Bool.and_eq_true, Bool.not_eq_true'] at this
        refine ⟨dB this.1, ?_⟩
        rw [g3]
        cases s <;> first | rfl | (cases this.2; done)
      refine (ad3 hte hΦ hany hf hb (hΛ _ hsm) hN hargs hwp).mono fun en w' hp => ?_
      rcases hp with ⟨y, v, R₁, rfl, hx1, hm1, hv, hy⟩ | ⟨y, v, R₁, rfl, hx1, hm1, hv, hy⟩
      · replace hy := hK1 _ _ hy
        obtain ⟨R', a1, a2⟩ := aik hm hx hk hx1 hm1 hv hy hend
        rw [hy.1] at h5
        cases h5
        exact ⟨v, R', rfl, a1, a2⟩
      · replace hy := hK2 _ _ hy
        obtain ⟨R', a1, a2⟩ := aik hm hx hk hx1 hm1 hv hy hend
        rw [hy.1] at h5
        cases h5
        exact ⟨v, R', rfl, a1, a2⟩
end
end Sx
end Go.Proofs.Ytohjofabochgfaa

namespace Go.Proofs.Ytohjofabochgfaa
namespace Sx
open Go
theorem Sb {b : Bd} {n m : Nat} {o o' : Option Nat} (h : cT b m = some o') : cT (Wv b n o) m = some o' := by
  unfold Wv
  split
  · exact h
  · rename_i hn
    simp only [cT]
    cases hb : Nat.beq n m
    · exact h
    · have := Nat.eq_of_beq_eq_true hb
      subst this
      rw [h] at hn
      cases hn
theorem BE : ∀ {ns : List Nat} {l : List SV} {b : Bd} {m : Nat} {o : Option Nat}, cT b m = some o → cT (CX ns l b) m = some o
  | [], _, _, _, _, h => h
  | n :: ns, [], _, _, _, h => h
  | n :: ns, y :: r, b, m, o, h => by
    cases y <;> simp only [CX] <;> first | exact h | exact BE (Sb h)
theorem Ws {s : Sh} {x : SV} {b : Bd} {m : Nat} {o : Option Nat} (h : cT b m = some o) : cT (NF s x b) m = some o := by
  unfold NF
  split <;> first | exact h | exact Sb h | exact BE h
theorem nV : ∀ {l : List Sh} {cs : List SV} {b : Bd} {m : Nat} {o : Option Nat}, cT b m = some o → cT (mD l cs b) m = some o
  | [], _, _, _, _, h => h
  | s :: r, cs, b, m, o, h => by
    simp only [mD]
    exact nV (Ws h)
theorem lC {hp : Hp} : ∀ {l : List (Nat × CSh)} {b : Bd} {m : Nat} {o : Option Nat}, cT b m = some o → cT (ez hp l b) m = some o
  | [], _, _, _, h => h
  | (n, s) :: r, b, m, o, h => by
    cases s <;> simp only [ez]
    case cells l =>
      refine lC ?_
      split
      · split
        · exact nV h
        · exact h
      · exact h
    all_goals exact lC h
section
variable {d : Nat} {hp hp' : Hp} (hg : WG d hp hp')
include hg
theorem iU : ∀ {l : List (Nat × CSh)} {b : Bd}, (∀ q ∈ l, ∀ c, cT (ez hp l b) q.1 = some (some c) → hp c ≠ none) → ez hp' l b = ez hp l b
  | [], _, _ => rfl
  | (n, s) :: r, b, h => by
    cases s <;> simp only [ez] at h ⊢
    case cells l =>
      have e : (match cT b n with | some (some c) => (match hp' c with | some ⟨_, .cells vs⟩ => mD l vs b | _ => b) | _ => b) = (match cT b n with | some (some c) => (match hp c with | some ⟨_, .cells vs⟩ => mD l vs b | _ => b) | _ => b) := by
        split
        · rename_i c hc
          have h1 := h (n, .cells l) (by simp) c (lC (by
            split
            · split
              · exact nV hc
              · exact hc
            · exact hc))
          cases hq : hp c with
          | none => exact absurd hq h1
          | some ch => rw [hg.iO _ _ hq]
        · rfl
      exact (congrArg (ez hp' r) e).trans (iU fun q hq c hc => h q (List.mem_cons_of_mem _ hq) c hc)
    all_goals exact iU fun q hq c hc => h q (List.mem_cons_of_mem _ hq) c hc
theorem nG {bd : Bd} {n c e : Nat} (h : zJ bd hp n c e = true) : zJ bd hp' n c e = true := by
  unfold zJ at h ⊢
  split at h
  · rename_i c' hc
    rw [Bool.and_eq_true] at h
    have h2 := h.2
    split at h2
    · rename_i ch hch
      rw [hg.iO _ _ hch]
      simp only
      rw [h.1, h2]
      rfl
    · cases h2
  · cases h
theorem w8 {bd : Bd} : ∀ {ns : List Nat} {l : List SV}, uo bd hp ns l = true → uo bd hp' ns l = true
  | [], [], _ => rfl
  | [], _ :: _, h => by cases h
  | n :: ns, [], h => by cases h
  | n :: ns, y :: r, h => by
    cases y <;> simp only [uo] at h ⊢ <;> try (cases h; done)
    simp only [Bool.and_eq_true] at h ⊢
    exact ⟨⟨⟨nG hg h.1.1.1, h.1.1.2⟩, h.1.2⟩, w8 h.2⟩
theorem Ve {bd : Bd} {s : Sh} {cs : List SV} (h : kI bd hp s cs = true) : kI bd hp' s cs = true := by
  unfold kI at h ⊢
  split at h
  · exact nG hg h
  · exact h
  · simp only [Bool.and_eq_true] at h ⊢
    exact ⟨⟨nG hg h.1.1, h.1.2⟩, h.2⟩
  · simp only [Bool.and_eq_true] at h ⊢
    exact ⟨h.1, w8 hg h.2⟩
  · simp only [Bool.and_eq_true] at h ⊢
    exact ⟨h.1, nG hg h.2.1, h.2.2⟩
  · rfl
  · rfl
  · rfl
  · cases h
theorem NL {ok : Nat → Bool} {t : Ty} {x : SV} {ys : List t.T} (h : Au ok t hp x = some ys) : Au ok t hp' x = some ys := by
  have key : ∀ {c : Nat} {f : Option Ch → Option (List t.T)}, f none = none → f (hp c) = some ys → f (hp' c) = some ys := fun {c f} h0 h => by
    cases hq : hp c with
    | none => rw [hq, h0] at h; cases h
    | some ch => rw [hg.iO _ _ hq, ← hq]; exact h
  cases x <;> simp only [Au] at h ⊢ <;> try (first | exact h | (cases h; done))
  case own c e => exact key (c := c) (f := fun o => match o with | some ⟨ep, .row t' xs⟩ => cond (Nat.beq ep e && ok c) (bO t t' xs) none | some ⟨ep, .frz t' xs⟩ => cond (Nat.beq ep e) (bO t t' xs) none | _ => none) rfl h
  case clip c e => exact key (c := c) (f := fun o => match o with | some ⟨ep, .row t' xs⟩ => cond (Nat.beq ep e && ok c) (bO t t' xs) none | some ⟨ep, .frz t' xs⟩ => cond (Nat.beq ep e) (bO t t' xs) none | _ => none) rfl h
  case part c e off len => exact key (c := c) (f := fun o => match o with | some ⟨ep, .row t' xs⟩ => cond (Nat.beq ep e && ok c) ((bO t t' xs).map fun l => (l.drop off).take len) none | some ⟨ep, .frz t' xs⟩ => cond (Nat.beq ep e) ((bO t t' xs).map fun l => (l.drop off).take len) none | _ => none) rfl h
theorem nC {ok : Nat → Bool} : ∀ {t : Ty} {cs : List SV} {x : t.T}, tF ok hp t cs = some x → tF ok hp' t cs = some x
  | .bool, _, _, h => h
  | .u64, _, _, h => h
  | .u8, _, _, h => h
  | .int, _, _, h => h
  | .str, _, _, h => h
  | .elem, _, _, h => h
  | .prod a b, cs, x, h => by
    obtain ⟨h1, h2⟩ := bp h
    simp only [tF, nC h1, nC h2, pe]
  | .arr n t, cs, x, h => by
    simp only [tF] at h ⊢
    split at h
    · rename_i hl
      rw [if_pos hl]
      exact ju (fun _ _ => nC) h
    · cases h
  | .list t, cs, x, h => by
    simp only [tF] at h ⊢
    split at h
    · rename_i hp0
      rw [if_pos hp0]
      obtain ⟨y, rfl, hy⟩ := me h
      simp only [an6]
      exact NL hg hy
    · cases h
omit hg in
theorem U4 {a b : Bool} {x : Unit} (hab : a = true → b = true) (h : HU a = some x) : HU b = some x := by
  rw [hab (hX h)]; rfl
theorem Br {bd : Bd} {ok : Nat → Bool} {s : Sh} {cs : List SV} {x : s.T} (h : pb bd ok hp s cs = some x) : pb bd ok hp' s cs = some x := by
  cases s <;> simp only [pb] at h ⊢
  case val b t => exact nC hg h
  all_goals exact U4 (Ve hg) h
theorem Ml {bd : Bd} {ok : Nat → Bool} {s : Sh} {y : SV} {x : s.T} (h : zx bd ok hp s y = some x) : zx bd ok hp' s y = some x := by
  unfold zx at h ⊢
  split at h
  · exact Br hg h
  · cases h
theorem sD {bd : Bd} {ok : Nat → Bool} : ∀ {l : List Sh} {cs : List SV} {x : ShT l}, kW bd ok hp l cs = some x → kW bd ok hp' l cs = some x
  | [], [], _, h => h
  | [], _ :: _, _, h => by cases h
  | s :: r, cs, x, h => by
    obtain ⟨h1, h2⟩ := bp (show pe (pb bd ok hp s (cs.take s.size)) (kW bd ok hp r (cs.drop s.size)) = some x from h)
    show pe (pb bd ok hp' s (cs.take s.size)) (kW bd ok hp' r (cs.drop s.size)) = some x
    rw [Br hg h1, sD h2]
    rfl
theorem sB {bd : Bd} {ok : Nat → Bool} {tm : List SV} : ∀ {l : List (Nat × Sh)} {x : SlT l}, rk bd ok hp tm l = some x → rk bd ok hp' tm l = some x
  | [], _, h => h
  | c :: r, x, h => by
    obtain ⟨h1, h2⟩ := bp h
    simp only [rk, Ml hg h1, sB h2, pe]
    rfl
theorem HS {bd : Bd} {ok : Nat → Bool} {s : CSh} {b : Chunk} {x : s.T} (h : gA bd ok hp s b = some x) : gA bd ok hp' s b = some x := by
  cases s <;> cases b <;> simp only [gA] at h ⊢ <;> first | exact h | exact sD hg h
theorem P9 {bd : Bd} {ok : Nat → Bool} {n : Nat} {s : CSh} {x : s.T} (h : iW bd ok hp n s = some x) : iW bd ok hp' n s = some x := by
  unfold iW at h ⊢
  split at h
  · split at h
    · rename_i ch hch
      rw [hg.iO _ _ hch]
      exact HS hg h
    · cases h
  · exact h
  · exact h
theorem pc {bd : Bd} {ok : Nat → Bool} : ∀ {l : List (Nat × CSh)} {x : HA l}, dN bd ok hp l = some x → dN bd ok hp' l = some x
  | [], _, h => h
  | c :: r, x, h => by
    obtain ⟨h1, h2⟩ := bp h
    simp only [dN, P9 hg h1, pc h2, pe]
    rfl
omit hg in
theorem nB {bd : Bd} {ok : Nat → Bool} : ∀ {l : List (Nat × CSh)} {x : HA l}, dN bd ok hp l = some x → ∀ q ∈ l, ∀ c, cT bd q.1 = some (some c) → hp c ≠ none
  | [], _, _, _, hq, _, _ => by cases hq
  | c :: r, x, h, q, hq, c', hb => by
    obtain ⟨h1, h2⟩ := bp h
    rcases List.mem_cons.1 hq with he | he
    · subst he
      unfold iW at h1
      rw [hb] at h1
      simp only at h1
      intro hn
      rw [hn] at h1
      cases h1
    · exact nB h2 q he c' hb
theorem ag9 {s : Shape} (hfx : s.fixed = 0) {tm : List SV} {x : s.T} (h : s.prj ⟨tm, hp⟩ = some x) : s.prj ⟨tm, hp'⟩ = some x ∧ s.bd ⟨tm, hp'⟩ = s.bd ⟨tm, hp⟩ := by
  unfold Shape.prj at h ⊢
  dsimp only at h ⊢
  cases hb : s.HF ⟨tm, hp⟩ (s.bd ⟨tm, hp⟩) && Nat.beq tm.length s.n
  · rw [hb] at h; cases h
  · rw [hb] at h
    obtain ⟨h1, h2⟩ := bp h
    have e : s.bd ⟨tm, hp'⟩ = s.bd ⟨tm, hp⟩ := iU hg (nB h2)
    have e2 : s.HF ⟨tm, hp'⟩ (s.bd ⟨tm, hp⟩) = s.HF ⟨tm, hp⟩ (s.bd ⟨tm, hp⟩) := by
      unfold Shape.HF
      rw [hfx]
      rfl
    refine ⟨?_, e⟩
    rw [e, e2, hb, cond_true, sB hg h1, pc hg h2]
    rfl
theorem Ka {c : Nat} (h : hp c ≠ none) : Z1 hp' c = Z1 hp c := by
  unfold Z1
  cases hq : hp c with
  | none => exact absurd hq h
  | some ch => rw [hg.iO _ _ hq]
theorem u9 {bd : Bd} {fixed : Nat} : ∀ {l : List (Nat × CSh)}, (∀ q ∈ l, ∀ c, cT bd q.1 = some (some c) → hp c ≠ none) → cL bd hp' fixed l = cL bd hp fixed l
  | [], _ => rfl
  | c :: r, h => by
    have ih := u9 (bd := bd) (fixed := fixed) (l := r) fun q hq => h q (List.mem_cons_of_mem _ hq)
    simp only [cL, ih]
    cases Nat.blt c.1 fixed
    · simp only [cond_false]
      split
      · rename_i o ho
        rw [Ka hg (h c (by simp) o ho)]
      · rfl
    · rfl
theorem amS {S : ao} {pre : S.T → Bool} {F : S.T → OT S.Y} {args : List SV} {out : Out} (h : ((S.aE pre F).f d args hp).run = some out) : ((S.aE pre F).f d args hp').run = some out := by
  simp only [ao.aE] at h ⊢
  split at h
  · cases h
  · rename_i x hx
    obtain ⟨e1, e2⟩ := ag9 hg (s := S.inp) rfl hx
    rw [e1]
    simp only
    rw [e2]
    obtain ⟨h1, h2⟩ := OT.aD h
    rw [h1]
    obtain ⟨oy, h3, h4⟩ := OT.run_bind h2
    have hold : ∀ q ∈ S.chunks, ∀ c, cT (S.inp.bd ⟨args, hp⟩) q.1 = some (some c) → hp c ≠ none := by
      have hx' := hx
      unfold Shape.prj at hx'
      dsimp only at hx'
      cases hb : S.inp.HF ⟨args, hp⟩ (S.inp.bd ⟨args, hp⟩) && Nat.beq args.length S.inp.n
      · rw [hb] at hx'; cases hx'
      · rw [hb] at hx'
        obtain ⟨_, h2⟩ := bp hx'
        exact nB h2
    have hbok : ∀ p ∈ S.inp.bd ⟨args, hp⟩, ∃ q ∈ S.chunks, q.1 = p.1 := by
      have hx' := hx
      unfold Shape.prj at hx'
      dsimp only at hx'
      cases hb : S.inp.HF ⟨args, hp⟩ (S.inp.bd ⟨args, hp⟩) && Nat.beq args.length S.inp.n
      · rw [hb] at hx'; cases hx'
      · rw [Bool.and_eq_true] at hb
        have := hb.1
        unfold Shape.HF at this
        simp only [Bool.and_eq_true, List.all_eq_true, List.any_eq_true] at this
        intro p hp
        obtain ⟨q, hq, he⟩ := this.1.2 p hp
        exact ⟨q, hq, Nat.eq_of_beq_eq_true he⟩
    have hepN : ∀ n c, cT (S.inp.bd ⟨args, hp⟩) n = some (some c) → Z1 hp' c = Z1 hp c := fun n c hc => by
      obtain ⟨q, hq, he⟩ := hbok _ (jx hc)
      exact Ka hg (hold q hq c (by rw [he]; exact hc))
    unfold ao.emit at h4
    dsimp only at h4
    obtain ⟨hend, h5⟩ := OT.aD h4
    -- the names
    have hfr : fresh hp' d = fresh hp d := ib hg
    have hnm : ∀ n, S.fixed ≤ n ∨ (∃ c, cT (S.inp.bd ⟨args, hp⟩) n = some (some c)) → S.nm (S.inp.bd ⟨args, hp⟩) hp' (fresh hp d) n = S.nm (S.inp.bd ⟨args, hp⟩) hp (fresh hp d) n := fun n hn => by
      unfold ao.nm
      cases hb : Nat.blt n S.fixed
      · rfl
      · rcases hn with hn | ⟨c, hn⟩
        · have := dB hb; omega
        · simp only [cond_true, nameOf, hn, hepN n c hn]
    have hnmall : S.nm (S.inp.bd ⟨args, hp⟩) hp' (fresh hp d) = S.nm (S.inp.bd ⟨args, hp⟩) hp (fresh hp d) := by
      funext n
      rcases Nat.lt_or_ge n S.fixed with hn | hn
      · refine hnm n (.inr ?_)
        have he := hend
        unfold ao.ua at he
        simp only [Bool.and_eq_true, List.all_eq_true] at he
        have h6 := (he.2.1 n (by simpa using hn)).1
        split at h6
        · rename_i c hc; exact ⟨c, hc⟩
        · cases h6
      · exact hnm n (.inl hn)
    have hend' : S.ua (S.inp.bd ⟨args, hp⟩) hp' (fresh hp d) oy.1 = true := by
      have he := hend
      unfold ao.ua at he ⊢
      simp only [Bool.and_eq_true] at he ⊢
      refine ⟨he.1, he.2.1, he.2.2.1, ?_⟩
      have h6 := he.2.2.2
      simp only [List.all_eq_true, Bool.and_eq_true, Bool.or_eq_true] at h6 ⊢
      intro q hq
      refine ⟨(h6 q hq).1, (h6 q hq).2.imp_right fun h7 => ⟨h7.1, ?_⟩⟩
      have h8 := h7.2
      have hlt := dB h7.1
      cases hz : hp (fresh hp d + (q.1 - S.fixed)) with
      | some ch => rw [hz] at h8; cases h8
      | none =>
        rw [hg.free _ ?_ hz]
        · rfl
        · obtain ⟨k, hk1, hk2⟩ : ∃ k, k ≤ 4000 ∧ fresh hp d = (d + 1) * 4096 + k := by
            have : ∀ (n k : Nat), n + k ≤ 4000 → ∃ j, j ≤ 4000 ∧ dR hp d n k = (d + 1) * 4096 + j := by
              intro n
              induction n with
              | zero => intro k hk; exact ⟨k, by omega, rfl⟩
              | succ n ih =>
                intro k hk
                simp only [dR]
                split
                · exact ⟨k, by omega, rfl⟩
                · exact ih (k + 1) (by omega)
            exact this 4000 0 (by omega)
          rw [hk2]
          unfold jj
          omega
    have hem : (S.emit (S.inp.bd ⟨args, hp⟩) d hp' oy.1 oy.2).run = some out := by
      unfold ao.emit
      dsimp only
      rw [hfr, hend', hnmall, u9 hg hold]
      exact h5
    have hbind : ∀ {α β : Type} (t : OT α) (f : α → OT β) (a : α) (b : β), t.run = some a → (f a).run = some b → (t.bind f).run = some b := by
      intro α β t f a b h1 h2
      induction t with
      | ok a' => cases h1; exact h2
      | br c u v hu hv =>
        cases c
        · exact hv h1
        · exact hu h1
      | fail => cases h1
    exact hbind (F x) _ oy out h3 hem
end
theorem ax {S : ao} {pre : S.T → Bool} {F : S.T → OT S.Y} : aB (S.aE pre F) := fun _ _ _ _ _ hg h => amS hg h
end Sx
end Go.Proofs.Ytohjofabochgfaa

namespace Go.Proofs.Ytohjofabochgfaa
namespace Sx
open Go
def OT.wpR {α : Type} (t : OT α) (K : α → Prop) : Prop :=
  OT.rec (motive := fun _ => Prop) (fun a => K a) (fun b _ _ x y => Bool.rec (motive := fun _ => Prop) y x b) False t
theorem OT.Om {α : Type} (t : OT α) (K : α → Prop) : t.wpR K = t.wp K := by
  induction t with
  | ok b => rfl
  | br b x y hx hy =>
    cases b
    · exact hy
    · exact hx
  | fail => rfl
theorem OT.ox {α : Type} {t : OT α} {a : α} {K : α → Prop} (h : t.run = some a) (hk : K a) : t.wp K := by
  induction t with
  | ok b => cases h; exact hk
  | br b x y hx hy =>
    cases b
    · exact hy h
    · exact hx h
  | fail => cases h
def aj (fn : Func) : Code := fn.body.getD .skip
abbrev aJ := Sigma fun p : SE × Shape => p.2.T
def cE (sh : Shape) (xs : SE → Option Shape) (Q : Sum sh.T aJ → Prop) (e : SE) (st : St) : Prop := match e with
  | .normal => sh.on st fun s => Q (.inl s)
  | e => match xs e with
    | none => False
    | some s => s.on st fun x => Q (.inr ⟨(e, s), x⟩)
def ay {σ ε : Type} (T : σ → OT (Sum σ ε)) : Nat → σ → Option ε
  | 0, _ => none
  | n + 1, s => match (T s).run with
    | some (.inl s') => ay T n s'
    | some (.inr e) => some e
    | none => none
def cS (sh : Shape) (id : Nat) (ok : sh.T → Bool) (f : sh.T → OT aJ) (st : St) (K : SE → St → Prop) : Prop :=
  sh.on st fun s => cond (ok s) ((f s).wp fun e => K (aiz id e.1.1) (e.1.2.inj e.2)) False
section
variable {P : Program} {te : TE} {Φ : Env} (hte : li P te) (hΦ : aN P Φ) (hany : aU P te Φ)
include hte hΦ hany
theorem amt {R₀ : Ctx} {sh : Shape} (h0 : Small R₀ sh.fixed) {xs : SE → Option Shape} (hxs : ∀ e s, xs e = some s → Small R₀ s.fixed) (hpan : ∀ v, xs (.pan v) = none) {Λ : Lam} {body : Code} (hΛ : Aw P R₀ Λ body)
    {id n : Nat} {T : sh.T → OT (Sum sh.T aJ)} (hT : ∀ s Q, wps te Φ Λ n body (sh.inj s) (cE sh xs Q) = (T s).wpR Q) :
    HB P R₀ (.block id (.loop body)) fun st K => sh.on st fun s => ∃ m e, ay T m s = some e ∧ K (aiz id e.1.1) (e.1.2.inj e.2) := by
  intro R st a w K Q hx hst hl hK
  obtain ⟨s, R', ⟨m, e, hr, hk⟩, hx', hst'⟩ := Shape.Mn h0 hx hst hl
  refine wp_block (A6 ?_)
  clear hl hst hx
  induction m generalizing s R' a w with
  | zero => cases hr
  | succ m ih =>
    simp only [ay] at hr
    cases ht : (T s).run with
    | none => rw [ht] at hr; cases hr
    | some o =>
      rw [ht] at hr
      have hw : wps te Φ Λ n body (sh.inj s) (cE sh xs (fun z => z = o)) := by
        rw [hT, OT.Om]; exact OT.ox ht rfl
      refine EW (Ol (R₀ := R₀) hte hΦ hany hΛ hx' hst' hw ⟨?_, ?_, ?_, ?_⟩)
      · intro R1 st1 a1 w1 hx1 hst1 hk1
        obtain ⟨s', R2, g1, g4, g5⟩ := Shape.Mn h0 hx1 hst1 (hk1 : sh.on st1 _)
        subst g1
        exact ih a1 w1 s' R2 hr g4 g5
      · intro R1 st1 a1 w1 hx1 hst1 hk1
        simp only [cE] at hk1
        split at hk1
        · exact hk1.elim
        · rename_i sh' he
          obtain ⟨x, R2, g1, g2, g3⟩ := Shape.Mn (hxs _ sh' he) hx1 hst1 hk1
          subst g1
          cases hr
          exact hK.ret R2 _ a1 w1 g2 g3 hk
      · intro R1 st1 a1 w1 j hx1 hst1 hk1
        simp only [cE] at hk1
        split at hk1
        · exact hk1.elim
        · rename_i sh' he
          obtain ⟨x, R2, g1, g2, g3⟩ := Shape.Mn (hxs _ sh' he) hx1 hst1 hk1
          subst g1
          cases hr
          simp only [aiz] at hk
          simp only [Exit.inBlock]
          by_cases e : j = id
          · subst e
            rw [Nat.beq_refl, cond_true] at hk
            simp only [if_true]
            exact hK.normal R2 _ a1 w1 g2 g3 hk
          · have hb : Nat.beq j id = false := by
              cases hq : Nat.beq j id
              · rfl
              · exact absurd (Nat.eq_of_beq_eq_true hq) e
            rw [hb, cond_false] at hk
            simp only [e, if_false]
            exact hK.exit R2 _ a1 w1 j g2 g3 hk
      · intro R1 st1 a1 w1 sv v hx1 hst1 hv hk1
        simp only [cE, hpan] at hk1
theorem bg {R₀ : Ctx} {sh : Shape} (h0 : Small R₀ sh.fixed) {xs : SE → Option Shape} (hxs : ∀ e s, xs e = some s → Small R₀ s.fixed) (hpan : ∀ v, xs (.pan v) = none) {Λ : Lam} {body : Code} (hΛ : Aw P R₀ Λ body)
    {id n : Nat} {T : sh.T → OT (Sum sh.T aJ)} (hT : ∀ s Q, wps te Φ Λ n body (sh.inj s) (cE sh xs Q) = (T s).wpR Q) {ok : sh.T → Bool} {f : sh.T → OT aJ}
    (hf : ∀ s, ok s = true → ∃ m e, ay T m s = some e ∧ (f s).run = some e) : HB P R₀ (.block id (.loop body)) (cS sh id ok f) := by
  intro R st a w K Q hx hst hl hK
  refine amt hte hΦ hany h0 hxs hpan hΛ hT (id := id) R st a w K Q hx hst ?_ hK
  unfold cS at hl
  unfold Shape.on at hl ⊢
  split at hl
  · rename_i s hs
    cases ho : ok s
    · rw [ho] at hl; exact hl.elim
    · rw [ho] at hl
      obtain ⟨m, e, h1, h2⟩ := hf s ho
      obtain ⟨e', h3, h4⟩ := OT.Xh hl
      rw [h2] at h3
      cases h3
      rw [hs]
      exact ⟨m, e, h1, h4⟩
  · exact hl.elim
def fnK (S : ao) (sel : SV → Option ar) (Q : S.Y → Prop) (v : SV) (hp : Hp) : Prop := match sel v with
  | some o => match (o.shape S.fixed).prj ⟨af6 o.rs.length v, hp⟩ with
    | some y => Q ⟨o, y⟩
    | none => False
  | none => False
def aog (S : ao) : List ar → (S.Y → Prop) → SV → Hp → Prop
  | [], _, _, _ => False
  | o :: r, Q, v, hp => match (o.shape S.fixed).prj ⟨af6 o.rs.length v, hp⟩ with
    | some y => Q ⟨o, y⟩
    | none => aog S r Q v hp
omit hte hΦ hany in
theorem Q8 {S : ao} {Q : S.Y → Prop} {v : SV} {hp : Hp} : ∀ {outs : List ar}, aog S outs Q v hp → ∃ o ∈ outs, ∃ y, (o.shape S.fixed).prj ⟨af6 o.rs.length v, hp⟩ = some y ∧ Q ⟨o, y⟩
  | [], h => h.elim
  | o :: r, h => by
    simp only [aog] at h
    split at h
    · rename_i y hy
      exact ⟨o, List.mem_cons_self .., y, hy, h⟩
    · obtain ⟨o', h1, h2⟩ := Q8 h
      exact ⟨o', List.mem_cons_of_mem _ h1, h2⟩
theorem az {f : FuncId} {fn : Func} {c : Code} (hf : P.funcs[f]? = some fn) (hb : fn.body = some c) (hname : (fn.name == "runtime.NumGoroutine") = false) {S : ao} {k : Nat} (hk : S.chunks.all (fun c => Nat.blt c.1 k && !c.2.wl) = true) {Λ : Lam}
    (hΛ : ∀ R, Small R k → Aw P R Λ c) {n : Nat} {sel : SV → Option ar} (hsel : ∀ v o, sel v = some o → o.pan = false) {pre : S.T → Bool} {F T : S.T → OT S.Y}
    (h : ∀ x Q, wpf te Φ Λ n fn (S.inp.inj x).tm (S.inp.inj x).hp (fnK S sel Q) (fun _ _ => False) = (T x).wpR Q)
    (hF : ∀ x oy, pre x = true → (F x).run = some oy → (T x).run = some oy) : aa P f (S.aE pre F) := by
  refine amR hte hΦ hany hf hb hname hk hΛ (n := n) fun x oy hp hr => ⟨fnK S sel (fun z => z = oy), fun _ _ => False, ?_, fun v hp hq => ?_, fun _ _ hq => hq.elim⟩
  · rw [h, OT.Om]; exact OT.ox (hF x oy hp hr) rfl
  · unfold fnK at hq
    split at hq
    · rename_i o ho
      split at hq
      · rename_i y hy
        subst hq
        exact ⟨hsel v o ho, hy⟩
      · exact hq.elim
    · exact hq.elim
theorem M1 {f : FuncId} {fn : Func} {c : Code} (hf : P.funcs[f]? = some fn) (hb : fn.body = some c) (hname : (fn.name == "runtime.NumGoroutine") = false) {S : ao} {k : Nat} (hk : S.chunks.all (fun c => Nat.blt c.1 k && !c.2.wl) = true) {Λ : Lam}
    (hΛ : ∀ R, Small R k → Aw P R Λ c) {n : Nat} {outs : List ar} (hsel : (outs.all fun o => !o.pan) = true) {pre : S.T → Bool} {F T : S.T → OT S.Y}
    (h : ∀ x Q, wpf te Φ Λ n fn (S.inp.inj x).tm (S.inp.inj x).hp (aog S outs Q) (fun _ _ => False) = (T x).wpR Q)
    (hF : ∀ x oy, pre x = true → (F x).run = some oy → (T x).run = some oy) : aa P f (S.aE pre F) := by
  refine amR hte hΦ hany hf hb hname hk hΛ (n := n) fun x oy hp hr => ⟨aog S outs (fun z => z = oy), fun _ _ => False, ?_, fun v hp hq => ?_, fun _ _ hq => hq.elim⟩
  · rw [h, OT.Om]; exact OT.ox (hF x oy hp hr) rfl
  · obtain ⟨o, ho, y, hy, hQ⟩ := Q8 hq
    subst hQ
    exact ⟨by have := List.all_eq_true.1 hsel o ho; simpa using this, hy⟩
end
end Sx
end Go.Proofs.Ytohjofabochgfaa

namespace Go.Proofs.Ytohjofabochgfaa
namespace Sx
open Go
def zeroCells : Ty → List Value
  | .bool => [.bool false]
  | .u64 => [fO 0]
  | .u8 => [vu8 0]
  | .int => [.int .i64 0]
  | .str => [.string ⟨#[]⟩]
  | .elem => [fO 0, fO 0, fO 0, fO 0]
  | .prod a b => zeroCells a ++ zeroCells b
  | .arr n t => (List.replicate n (zeroCells t)).flatten
  | .list _ => [.slice none 0 0]
theorem ci : ∀ t : Ty, (zeroCells t).length = t.size
  | .bool => rfl
  | .u64 => rfl
  | .u8 => rfl
  | .int => rfl
  | .str => rfl
  | .elem => rfl
  | .prod a b => by simp only [zeroCells, List.length_append, ci a, ci b, Ty.size]
  | .arr n t => by simp [zeroCells, ci t, Ty.size]
  | .list _ => rfl
theorem FI {c : List Value} {m : Nat} (hc : c.length = m) : ∀ (n i : Nat), i < n → seg (List.replicate n c).flatten (i * m) m = c
  | 0, _, h => by omega
  | n + 1, 0, _ => by
    simp only [seg, List.replicate_succ, List.flatten_cons, Nat.zero_mul, List.drop_zero, List.take_append, hc, Nat.sub_self, List.take_zero, List.append_nil]
    rw [← hc, List.take_length]
  | n + 1, i + 1, h => by
    have ih := FI hc n i (by omega)
    simp only [seg] at ih ⊢
    rw [List.replicate_succ, List.flatten_cons]
    have : (i + 1) * m = c.length + i * m := by rw [hc, Nat.add_mul]; omega
    rw [this, List.drop_append]
    simp only [Nat.add_sub_cancel_left]
    rw [List.drop_eq_nil_of_le (by omega), List.nil_append, ih]
theorem CH {F : Nat → Option Obj} : ∀ t : Ty, Rep F t t.d (zeroCells t)
  | .bool => rfl
  | .u64 => rfl
  | .u8 => rfl
  | .int => ⟨rfl, by decide⟩
  | .str => ⟨rfl, by simp [Ty.d]⟩
  | .elem => rfl
  | .prod a b => by
    refine ⟨by simp only [zeroCells, List.length_append, ci], ?_, ?_⟩
    · have : (zeroCells (.prod a b)).take a.size = zeroCells a := by
        simp only [zeroCells]
        rw [← ci a, List.take_left]
      rw [this]; exact CH a
    · have : (zeroCells (.prod a b)).drop a.size = zeroCells b := by
        simp only [zeroCells]
        rw [← ci a, List.drop_left]
      rw [this]; exact CH b
  | .arr n t => by
    refine ⟨ci _, by simp [Ty.d], fun i hi => ?_⟩
    have h1 : (Ty.d (.arr n t)).getD i t.d = t.d := by
      simp [Ty.d, List.getD_eq_getElem?_getD, List.getElem?_replicate, hi]
    rw [h1]
    simp only [zeroCells]
    rw [FI (ci t) n i hi]
    exact CH t
  | .list t => ⟨by simp [Ty.d], none, 0, rfl, by simp [Ty.d], .inl rfl⟩
def ath (P : Program) (T : TypeId) (d : TypeDesc) : TD → Bool
  | .struct fs => match d with
    | .struct fields => decide (fields.toList.map (fun f => (f.offset, f.type)) = fs) && fields.toList.all (fun f => !decide (f.name = "_")) && !P.stoodInHeld T &&
        (fields.toList.mapM (fun f => (P.info? f.type).map fun i => (f.offset, i.size))).isSome
    | _ => false
  | .array n e => match d with
    | .array n' e' => Nat.beq n n' && Nat.beq e e'
    | _ => false
  | .slice e => match d with
    | .slice e' => Nat.beq e e'
    | _ => false
  | .int k => match d with
    | .int k' => decide (k' = k)
    | _ => false
  | .bool => match d with
    | .bool => true
    | _ => false
  | .str => match d with
    | .string => true
    | _ => false
  | .ptr ms => match d with
    | .pointer _ => match P.info? T with
      | some i => ms.all fun nf => match i.methods.find? (fun q => q.name == nf.1) with
        | some m => m.path.toList.isEmpty && (match m.func with
          | some (f, b) => b && Nat.beq f nf.2
          | none => false)
        | none => false
      | none => false
    | _ => false
  | .iface => match d with
    | .interface _ => true
    | _ => false
  | .other => match d with
    | .struct _ => false
    | .array .. => false
    | _ => true
theorem ai {P : Program} {T : TypeId} {ti : TI} (h1 : (P.info? T).isSome = true) (h4 : ((P.info? T).get h1).zero.isSome = true) (h10 : (P.underlying T).isSome = true)
    (hs : Nat.beq ((P.info? T).get h1).size ti.size = true) (hb : Nat.beq ((P.info? T).get h1).bytes ti.bytes = true)
    (hz : (((P.info? T).get h1).zero.get h4).cells.toList.map EK = ti.zero) (hc : ((((P.info? T).get h1).zero.get h4).cells.toList.all Value.oneCell') = true)
    (hn : Nat.beq (((P.info? T).get h1).zero.get h4).cells.size ti.size = true) (h8 : Nat.ble ti.size 16777216 = true) (h9 : (ti.desc.agg || Nat.beq ti.size 1) = true)
    (hd : ath P T ((P.underlying T).get h10) ti.desc = true)
    (ht : match ti.ty with
      | none => True
      | some t => Nat.beq t.size ti.size = true ∧ (((P.info? T).get h1).zero.get h4).cells.toList = zeroCells t ∧ (!ti.desc.agg || !P.eqGuardType P.depth T) = true) : bi P T ti := by
  have e1 : P.info? T = some ((P.info? T).get h1) := (Option.some_get h1).symm
  have e4 : ((P.info? T).get h1).zero = some (((P.info? T).get h1).zero.get h4) := (Option.some_get h4).symm
  refine ⟨⟨_, _, e1, Nat.eq_of_beq_eq_true hs, Nat.eq_of_beq_eq_true hb, e4, hz, Nat.eq_of_beq_eq_true hn, fun u hu => List.all_eq_true.1 hc u hu⟩, Nat.le_of_ble_eq_true h8, fun ha => ?_, ⟨_, (Option.some_get h10).symm, ?_⟩, fun t hty => ?_⟩
  · rw [ha, Bool.false_or] at h9
    exact Nat.eq_of_beq_eq_true h9
  · generalize (P.underlying T).get h10 = d at hd
    cases hdd : ti.desc <;> rw [hdd] at hd <;> simp only [ath] at hd <;> (try dsimp only)
    case struct fs =>
      split at hd
      · rename_i fields
        simp only [Bool.and_eq_true, decide_eq_true_eq, List.all_eq_true, Bool.not_eq_true', decide_eq_false_iff_not] at hd
        exact ⟨fields, rfl, hd.1.1.1, hd.1.1.2, hd.1.2, hd.2⟩
      · cases hd
    case array n e =>
      split at hd
      · rw [Bool.and_eq_true] at hd
        rw [Nat.eq_of_beq_eq_true hd.1, Nat.eq_of_beq_eq_true hd.2]
      · cases hd
    case slice e =>
      split at hd
      · rw [Nat.eq_of_beq_eq_true hd]
      · cases hd
    case int k =>
      split at hd
      · rw [of_decide_eq_true hd]
      · cases hd
    case bool =>
      split at hd
      · rfl
      · cases hd
    case str =>
      split at hd
      · rfl
      · cases hd
    case ptr ms =>
      split at hd
      · refine ⟨⟨_, rfl⟩, ?_⟩
        split at hd
        · rename_i i hi
          intro nf hnf
          have hq := List.all_eq_true.1 hd nf hnf
          split at hq
          · rename_i m hm
            rw [Bool.and_eq_true] at hq
            refine ⟨i, m, hi, hm, ?_, ?_⟩
            · apply Array.ext'
              simpa using hq.1
            · have h2 := hq.2
              split at h2
              · rename_i f b hf
                rw [Bool.and_eq_true] at h2
                rw [hf, Nat.eq_of_beq_eq_true h2.2, h2.1]
              · cases h2
          · cases hq
        · cases hd
      · cases hd
    case iface =>
      split at hd
      · exact ⟨_, rfl⟩
      · cases hd
    case other =>
      cases d <;> first | trivial | (cases hd; done)
  · rw [hty] at ht
    obtain ⟨t1, t2, t3⟩ := ht
    refine ⟨Nat.eq_of_beq_eq_true t1, fun F z hz' => ?_, fun ha => ?_⟩
    · rw [e1] at hz'
      simp only [Option.bind_some] at hz'
      rw [e4] at hz'
      cases hz'
      rw [t2]
      exact CH t
    · rw [ha, Bool.not_true, Bool.false_or, Bool.not_eq_true'] at t3
      exact t3
def asz : TE := fun _ => none
def ap (T : TypeId) (ti : TI) (te : TE) : TE := fun x => cond (Nat.beq x T) (some ti) (te x)
theorem alx {P : Program} : li P asz := fun _ _ h => by cases h
theorem ac {P : Program} {T : TypeId} {ti : TI} {te : TE} (h : bi P T ti) (ht : li P te) : li P (ap T ti te) := fun x t hx => by
  unfold ap at hx
  cases hb : Nat.beq x T
  · rw [hb] at hx; exact ht x t hx
  · rw [hb] at hx
    cases hx
    rw [Nat.eq_of_beq_eq_true hb]
    exact h
def aiC : Env := fun _ => none
def av (f : FuncId) (s : bL) (Φ : Env) : Env := fun x => cond (Nat.beq x f) (some s) (Φ x)
theorem aiB {P : Program} : aN P aiC := fun _ _ h => by cases h
theorem ag {P : Program} {f : FuncId} {s : bL} {Φ : Env} (h : aa P f s) (hΦ : aN P Φ) : aN P (av f s Φ) := fun x t hx => by
  unfold av at hx
  cases hb : Nat.beq x f
  · rw [hb] at hx; exact hΦ x t hx
  · rw [hb] at hx
    cases hx
    rw [Nat.eq_of_beq_eq_true hb]
    exact h
theorem VX : aq aiC := fun _ _ h => by cases h
theorem ab {f : FuncId} {s : bL} {Φ : Env} (h : aB s) (hΦ : aq Φ) : aq (av f s Φ) := fun x t hx => by
  unfold av at hx
  cases hb : Nat.beq x f
  · rw [hb] at hx; exact hΦ x t hx
  · rw [hb] at hx
    cases hx
    exact h
end Sx
end Go.Proofs.Ytohjofabochgfaa

namespace Go.Proofs.Ytohjofabochgfaa
namespace Sx
open Go
def iX (l : List (Nat × Shape)) (r : Option Shape) : SE → Option Shape
  | .exit n => (l.find? fun p => Nat.beq p.1 n).map (·.2)
  | .ret => r
  | _ => none
theorem aF {l : List (Nat × Shape)} {r : Option Shape} {k : Nat} {R : Ctx} (hl : (l.all fun p => Nat.beq p.2.fixed k) = true) (hr : (r.all fun s => Nat.beq s.fixed k) = true) (hR : Small R k) :
    ∀ e s, iX l r e = some s → Small R s.fixed := by
  intro e s h
  cases e with
  | exit n =>
    simp only [iX] at h
    cases hf : l.find? fun p => Nat.beq p.1 n with
    | none => rw [hf] at h; cases h
    | some p =>
      rw [hf] at h
      cases h
      rw [Nat.eq_of_beq_eq_true (List.all_eq_true.1 hl p (List.mem_of_find?_eq_some hf))]
      exact hR
  | ret =>
    simp only [iX] at h
    subst h
    have e : s.fixed = k := Nat.eq_of_beq_eq_true (by simpa using hr)
    rw [e]
    exact hR
  | normal => cases h
  | pan v => cases h
theorem aS {l : List (Nat × Shape)} {r : Option Shape} (v : SV) : iX l r (.pan v) = none := rfl
section
variable {σ ε : Type} {T : σ → OT (Sum σ ε)}
theorem aV {s s' : σ} {m : Nat} {e : ε} (h : (T s).run = some (.inl s')) (h2 : ay T m s' = some e) : ay T (m + 1) s = some e := by
  simp only [ay, h]; exact h2
theorem bN {s : σ} {e : ε} (h : (T s).run = some (.inr e)) : ay T 1 s = some e := by
  simp only [ay, h]
theorem ET (st : Nat → σ) (n : Nat) {e : ε} (h : ∀ k, k < n → (T (st k)).run = some (.inl (st (k + 1)))) (hn : (T (st n)).run = some (.inr e)) : ∀ j k, k + j = n → ay T (j + 1) (st k) = some e
  | 0, k, hk => by
    have : k = n := by omega
    subst this
    exact bN hn
  | j + 1, k, hk => aV (h k (by omega)) (ET st n h hn j (k + 1) (by omega))
theorem EU (st : Nat → σ) (n : Nat) {e : ε} (h : ∀ k, k < n → (T (st k)).run = some (.inl (st (k + 1)))) (hn : (T (st n)).run = some (.inr e)) (k : Nat) (hk : k ≤ n) : ∃ m, ay T m (st k) = some e :=
  ⟨n - k + 1, ET st n h hn (n - k) k (by omega)⟩
def upto {β : Type} (f : Nat → β → β) (b : β) : Nat → β
  | 0 => b
  | k + 1 => f k (upto f b k)
theorem aT {β : Type} (mk : Nat → β → σ) (step : Nat → β → β) (fin : β → ε) (n : Nat) (b0 : β) (P : Nat → β → Prop) (h0 : P 0 b0)
    (hs : ∀ k b, k < n → P k b → (T (mk k b)).run = some (.inl (mk (k + 1) (step k b))) ∧ P (k + 1) (step k b))
    (he : ∀ b, P n b → (T (mk n b)).run = some (.inr (fin b))) : (∃ m, ay T m (mk 0 b0) = some (fin (upto step b0 n))) ∧ P n (upto step b0 n) := by
  have hP : ∀ k, k ≤ n → P k (upto step b0 k) := by
    intro k
    induction k with
    | zero => exact fun _ => h0
    | succ k ih => exact fun hk => (hs k _ (by omega) (ih (by omega))).2
  refine ⟨?_, hP n (Nat.le_refl _)⟩
  exact EU (fun k => mk k (upto step b0 k)) n (fun k hk => (hs k _ hk (hP k (by omega))).1) (he _ (hP n (Nat.le_refl _))) 0 (Nat.zero_le _)
end
def tab {α : Type} (x : List α) (n : Nat) (d : α) : List α := (List.range n).map fun i => x.getD i d
theorem gV {α : Type} {x : List α} {n : Nat} {d : α} (h : x.length = n) : tab x n d = x := by
  apply List.ext_getElem
  · simp [tab, h]
  · intro i h1 h2
    simp [tab, List.getD_eq_getElem?_getD, h2]
def lay {α : Type} (x y : List α) (n : Nat) (d : α) : List α := (List.range n).foldl (fun a i => a.set i (y.getD i d)) x
theorem fh {α : Type} {x y : List α} {d : α} : ∀ n, (lay x y n d).length = x.length
  | 0 => rfl
  | n + 1 => by
    have := fh (x := x) (y := y) (d := d) n
    simp only [lay, List.range_succ, List.foldl_append, List.foldl_cons, List.foldl_nil, List.length_set] at this ⊢
    exact this
theorem ahD {α : Type} {x y : List α} {d : α} : ∀ n i, n ≤ x.length → i < x.length → (lay x y n d)[i]? = if i < n then some (y.getD i d) else x[i]?
  | 0, i, _, _ => by simp [lay]
  | n + 1, i, h, hi => by
    have ih := ahD (x := x) (y := y) (d := d) n i (by omega) hi
    have hl := fh (x := x) (y := y) (d := d) n
    simp only [lay] at ih hl
    simp only [lay, List.range_succ, List.foldl_append, List.foldl_cons, List.foldl_nil]
    by_cases e : n = i
    · subst e
      rw [List.getElem?_set_self (by omega), if_pos (by omega)]
    · rw [List.getElem?_set_ne e, ih]
      by_cases h1 : i < n
      · rw [if_pos h1, if_pos (by omega)]
      · rw [if_neg h1, if_neg (by omega)]
theorem sE {α : Type} {x y : List α} {n : Nat} {d : α} (hx : x.length = n) (hy : y.length = n) : lay x y n d = y := by
  apply List.ext_getElem?
  intro i
  by_cases hi : i < n
  · rw [ahD n i (by omega) (by omega), if_pos hi, List.getD_eq_getElem?_getD, List.getElem?_eq_getElem (by omega)]
    rfl
  · rw [List.getElem?_eq_none (by rw [fh]; omega), List.getElem?_eq_none (by omega)]
theorem OT.cn {α : Type} {a : α} : (OT.ok a).run = some a := rfl
theorem OT.aw {α : Type} {b : Bool} {x y : OT α} (h : b = true) : (OT.br b x y).run = x.run := by rw [h]; rfl
theorem OT.al {α : Type} {b : Bool} {x y : OT α} (h : b = false) : (OT.br b x y).run = y.run := by rw [h]; rfl
def gd {α : Type} : List Bool → OT α → OT α
  | [], x => x
  | b :: r, x => .br b (gd r x) .fail
theorem ah {α : Type} {x : OT α} : ∀ {bs : List Bool}, bs.all (fun b => b) = true → (gd bs x).run = x.run
  | [], _ => rfl
  | b :: r, h => by
    rw [List.all_cons, Bool.and_eq_true] at h
    exact (OT.aw h.1).trans (ah h.2)
theorem aK {n : Int} (h : -9223372036854775808 ≤ n ∧ n ≤ 9223372036854775807) : inR n = true := by simp [inR, h.1, h.2]
theorem aI {k : Int} {n : Nat} (h : 0 ≤ k ∧ k < (n : Int)) : inB k n = true := by simp [inB, h.1, h.2]
theorem sG {k : Int} {n : Nat} (h : inB k n = true) : k.toNat < n := by
  simp only [inB, Bool.and_eq_true, decide_eq_true_eq] at h
  omega
theorem dq {l h : Int} {n : Nat} (hh : 0 ≤ l ∧ l ≤ h ∧ h ≤ (n : Int)) : cH l h n = true := by simp [cH, hh.1, hh.2.1, hh.2.2]
end Sx
end Go.Proofs.Ytohjofabochgfaa

namespace Go.Proofs.Ytohjofabochgfaa
namespace Sx
open Go Go.RowKit
def e9 (w : World) : Ctx := ⟨fun b => w.heap[b]?, ⟨fun _ => none, w⟩, fun _ => none, ahl⟩
theorem alG (w : World) : cP (e9 w) w :=
  ⟨fun _ _ h => h, (fun _ _ h => by cases h), (fun c ch h => by cases h), (fun c c' ch ch' L L' h => by cases h), fun _ _ _ => rfl, ⟨rfl, rfl, rfl⟩⟩
theorem TP {w w' : World} {R' : Ctx} {u : List (Nat × Ch)} (h : cU (e9 w) R' w' u) : Below w.heap.size w w' := by
  have he := h.mem.env
  rw [h.ext.U] at he
  have hb : ∀ k, k < w.heap.size → w'.heap[k]? = w.heap[k]? := fun k hk => by
    have h1 : w.heap[k]? = some w.heap[k] := by simp [hk]
    rw [h.mem.F k _ (h.ext.F k _ h1), h1]
  refine ⟨he.1, he.2.2, he.2.1, ?_, hb⟩
  rcases Nat.lt_or_ge w'.heap.size w.heap.size with hl | hl
  · have := hb _ hl
    simp [hl] at this
  · exact hl
theorem ahF {P : Program} {f : FuncId} {s : bL} (h : aa P f s) (hfn : ∃ fn, P.funcs[f]? = some fn ∧ (fn.name == "runtime.NumGoroutine") = false ∧ fn.body.isNone = false) {w : World} {args : List SV} {vs : List Value} {u : List (Nat × Ch)} (hr : SV.bA (e9 w) args vs)
    (ht : (s.f 0 args ahl).run = some (.ret ⟨.bool true, u⟩)) : Calls P f vs.toArray w fun e w' => e = .returned (.bool true) ∧ Below w.heap.size w w' := by
  have hc : Calls P f vs.toArray w (io (e9 w) (.ret ⟨.bool true, u⟩)) := by
    rcases h.calls (e9 w) w 0 args vs _ (alG w) hr ht with ⟨_, _, _, _, hc⟩ | ⟨v, w', hv, _⟩
    · exact hc
    · exfalso
      obtain ⟨fn, f1, f2, f3⟩ := hfn
      have f2' : ¬ fn.name = "runtime.NumGoroutine" := by simpa using f2
      have f3' : ¬ fn.body = none := fun e => by rw [e] at f3; simp at f3
      simp [callFunc, f1, f2', f3'] at hv
  refine hc.mono fun e w' hp => ?_
  obtain ⟨v, R', rfl, ha, hv⟩ := hp
  simp only [SV.rel] at hv
  subst hv
  exact ⟨rfl, TP ha⟩
end Sx
end Go.Proofs.Ytohjofabochgfaa

namespace Go.Proofs.Ytohjofabochgfaa
namespace Sx
open Go Go.RowKit
def O0 (te : TE) (T : TypeId) (n : Nat) : Bool := match te T with
  | some ei => Nat.beq ei.size n
  | none => false
def zz (go : TypeId → Ty → Bool) (te : TE) : Nat → List (Nat × TypeId) → Ty → Bool
  | o, [(p, T)], y => Nat.beq o p && (O0 te T y.size && go T y)
  | o, (p, T) :: q :: r, .prod a b => Nat.beq o p && (O0 te T a.size && (go T a && zz go te (o + a.size) (q :: r) b))
  | _, _, _ => false
def v8 (te : TE) : Nat → TypeId → Ty → Bool
  | 0, _, _ => false
  | n + 1, T, y => match te T with
    | none => false
    | some ti => match ti.desc, y with
      | .bool, .bool => true
      | .int .u64, .u64 => true
      | .int .u8, .u8 => true
      | .int .i64, .int => true
      | .str, .str => true
      | .array m e, .elem => (match te e with
        | some ei => (match ei.desc with | .int .u64 => true | _ => false) && Nat.beq ei.size 1
        | none => false) && (Nat.beq m 4 && Nat.beq ti.size 4)
      | .array m e, .arr k t => Nat.beq m k && (O0 te e t.size && (Nat.beq ti.size (k * t.size) && v8 te n e t))
      | .slice e, .list t => (match te e with
        | some ei => Nat.beq ei.size t.size && (Nat.blt 0 ei.size && Nat.blt 0 ei.bytes)
        | none => false) && v8 te n e t
      | .struct fs, y => Nat.beq ti.size y.size && zz (v8 te n) te 0 fs y
      | _, _ => false
theorem zD {α β : Type} {f : α → Option β} : ∀ {l : List α} {ys : List β}, l.mapM f = some ys → ys.length = l.length ∧ ∀ (i : Nat) (h : i < l.length) (h' : i < ys.length), f l[i] = some ys[i]
  | [], ys, h => by
    simp only [List.mapM_nil, Option.pure_def, Option.some.injEq] at h
    subst h
    exact ⟨rfl, fun i hi => absurd hi (Nat.not_lt_zero _)⟩
  | x :: l, ys, h => by
    simp only [List.mapM_cons, Option.bind_eq_bind, Option.bind_eq_some_iff, Option.pure_def, Option.some.injEq] at h
    obtain ⟨y, h1, r, h2, rfl⟩ := h
    obtain ⟨h3, h4⟩ := zD h2
    refine ⟨by simp [h3], fun i hi hi' => ?_⟩
    cases i with
    | zero => exact h1
    | succ i => exact h4 i (by simpa using hi) (by simpa using hi')
theorem tY {α : Type} {d : α} {Q : Nat → α → Prop} : ∀ (n : Nat), (∀ i, i < n → ∃ x, Q i x) → ∃ l : List α, l.length = n ∧ ∀ i, i < n → Q i (l.getD i d)
  | 0, _ => ⟨[], rfl, fun i h => absurd h (Nat.not_lt_zero _)⟩
  | n + 1, h => by
    obtain ⟨l, h1, h2⟩ := tY n fun i hi => h i (by omega)
    obtain ⟨x, hx⟩ := h n (by omega)
    refine ⟨l ++ [x], by simp [h1], fun i hi => ?_⟩
    rcases Nat.lt_or_ge i n with hi' | hi'
    · have := h2 i hi'
      rwa [List.getD_eq_getElem?_getD, List.getElem?_append_left (by omega), ← List.getD_eq_getElem?_getD]
    · have : i = n := by omega
      subst this
      rw [List.getD_eq_getElem?_getD, List.getElem?_append_right (by omega), h1]
      simpa using hx
theorem Nj {w : World} {a : Addr} {n : Nat} {cs : List Value} (hn : 0 < n) (h : w.cells? 0 a n = some cs) :
    ∃ arr E fz, w.heap[a.block]? = some (.cells arr E fz) ∧ a.spot = none ∧ a.off + n ≤ arr.size ∧ cs = seg arr.toList a.off n := by
  unfold World.cells? at h
  rw [if_pos (Nat.zero_le _)] at h
  obtain ⟨h1, h2⟩ := zD h
  rw [List.length_range] at h1
  have hat : ∀ i (hi : i < n), w.cell? (a.add i) = some (cs[i]'(by omega)) := fun i hi => by
    have := h2 i (by simpa using hi) (by omega)
    simpa using this
  have h0 := hat 0 hn
  have e0 : a.add 0 = a := rfl
  rw [e0] at h0
  unfold World.cell? at h0
  split at h0
  · rename_i arr E fz hb
    split at h0
    · cases h0
    · rename_i hs
      have hs' : a.spot = none := by simpa using hs
      have hget : ∀ i (hi : i < n), arr[a.off + i]? = some (cs[i]'(by omega)) := fun i hi => by
        have := hat i hi
        unfold World.cell? Addr.add at this
        by_cases hi0 : i = 0
        · subst hi0
          simpa [hb, hs'] using this
        · rw [if_neg hi0] at this
          simpa [hb] using this
      have hle : a.off + n ≤ arr.size := by
        have := (Array.getElem?_eq_some_iff.1 (hget (n - 1) (by omega))).1
        omega
      refine ⟨arr, E, fz, hb, hs', hle, ?_⟩
      apply List.ext_getElem
      · rw [fa (by simpa using hle)]; exact h1
      · intro i hi hi'
        obtain ⟨hlt, he⟩ := Array.getElem?_eq_some_iff.1 (hget i (by omega))
        simp only [seg, List.getElem_take, List.getElem_drop, Array.getElem_toList]
        exact he.symm
  · cases h0
section
variable {H : Type} {enc : TypeId × Value → H} {P : Program} {te : TE} (hte : li P te) {w : World} {sp : Nat → Bool}
abbrev ML (w : World) : Nat → Option Obj := fun b => w.heap[b]?
include hte
theorem ig {T : TypeId} {ti : TI} (h : te T = some ti) : P.cellsOf T = ti.size := by
  obtain ⟨i, z, h1, h2, _⟩ := (hte T ti h).ar1
  unfold Program.cellsOf
  rw [h1]
  exact h2
theorem Km {T : TypeId} {ti : TI} (h : te T = some ti) : P.bytesOf T = ti.bytes := by
  obtain ⟨i, z, h1, _, h2, _⟩ := (hte T ti h).ar1
  unfold Program.bytesOf
  rw [h1]
  exact h2
omit hte in
theorem tg {T : TypeId} {n : Nat} (h : O0 te T n = true) : ∃ ti, te T = some ti ∧ ti.size = n := by
  unfold O0 at h
  split at h
  · rename_i ei he
    exact ⟨ei, he, Nat.eq_of_beq_eq_true h⟩
  · cases h
omit hte in
theorem lv {e : TypeId} : ∀ {l : List (DataW H)} {d : DataW H}, d ∈ l → ∀ n ∈ d.weights P e, n ∈ DataW.weightsAll P e l
  | x :: l, d, h, n, hn => by
    simp only [DataW.weightsAll, List.mem_append]
    rcases List.mem_cons.1 h with rfl | h
    · exact .inl hn
    · exact .inr (lv h n hn)
theorem J5 {go : TypeId → Ty → Bool} {fuel : Nat} {cs : List Value}
    (hgo : ∀ T y c d ps, go T y = true → c.length = y.size → DataW.trod enc P w 0 sp true fuel T c = some (d, ps) → (∀ n ∈ d.weights P T, n ≤ reachBytes) → ∃ x, Rep (ML w) y x c) :
    ∀ (fl : List Field) (o : Nat) (y : Ty) (xs : List (DataW H × List MemPlace)), zz go te o (fl.map fun f => (f.offset, f.type)) y = true → o + y.size = cs.length →
      fl.mapM (fun f => DataW.trod enc P w 0 sp true fuel f.type ((cs.drop f.offset).take (P.cellsOf f.type))) = some xs →
      (∀ n ∈ DataW.weightsEach P (fl.map (·.type)) (xs.map (·.1)), n ≤ reachBytes) → ∃ x, Rep (ML w) y x (cs.drop o)
  | [], o, y, xs, h, _, _, _ => by simp [zz] at h
  | [f], o, y, xs, h, hl, hm, hw => by
    simp only [List.map_cons, List.map_nil, zz, Bool.and_eq_true] at h
    obtain ⟨h1, h2, h3⟩ := h
    have h1 := Nat.eq_of_beq_eq_true h1
    obtain ⟨ti, ht, hs⟩ := tg h2
    simp only [List.mapM_cons, List.mapM_nil, Option.bind_eq_bind, Option.bind_eq_some_iff, Option.pure_def, Option.some.injEq] at hm
    obtain ⟨⟨d, ps⟩, e1, r, rfl, rfl⟩ := hm
    rw [ig hte ht, hs, ← h1] at e1
    have hlen : (cs.drop o).length = y.size := by simp; omega
    rw [List.take_of_length_le (by omega)] at e1
    exact hgo _ _ _ _ _ h3 hlen e1 fun n hn => hw n (by simp only [List.map_cons, List.map_nil, DataW.weightsEach, List.append_nil]; exact hn)
  | f :: g :: r, o, y, xs, h, hl, hm, hw => by
    cases y <;> simp only [List.map_cons, zz, Bool.and_eq_true] at h <;> try (cases h; done)
    rename_i a b
    obtain ⟨h1, h2, h3, h4⟩ := h
    have h1 := Nat.eq_of_beq_eq_true h1
    obtain ⟨ti, ht, hs⟩ := tg h2
    rw [List.mapM_cons] at hm
    simp only [Option.bind_eq_bind, Option.bind_eq_some_iff, Option.pure_def, Option.some.injEq] at hm
    obtain ⟨⟨d, ps⟩, e1, q, e2, rfl⟩ := hm
    rw [ig hte ht, hs, ← h1] at e1
    simp only [Ty.size] at hl
    obtain ⟨x1, k1⟩ := hgo _ _ _ _ _ h3 (by simp; omega) e1 fun n hn => hw n (by simp only [List.map_cons, DataW.weightsEach, List.mem_append]; exact .inl hn)
    obtain ⟨x2, k2⟩ := J5 hgo (g :: r) (o + a.size) b q h4 (by omega) e2 fun n hn => hw n (by simp only [List.map_cons, DataW.weightsEach, List.mem_append] at hn ⊢; exact .inr hn)
    refine ⟨(x1, x2), ?_⟩
    simp only [Rep]
    refine ⟨by simp; omega, k1, ?_⟩
    rw [List.drop_drop]
    exact k2
theorem ajJ {go : TypeId → Ty → Bool} {fuel : Nat} {cs : List Value} {e : TypeId} {t : Ty} {ei : TI} (he : te e = some ei) (hs : ei.size = t.size)
    (hgo : ∀ c d ps, c.length = t.size → DataW.trod enc P w 0 sp true fuel e c = some (d, ps) → (∀ n ∈ d.weights P e, n ≤ reachBytes) → ∃ x, Rep (ML w) t x c) {m : Nat} (hl : cs.length = m * t.size) {xs : List (DataW H × List MemPlace)}
    (hm : ((List.range m).mapM fun i => DataW.trod enc P w 0 sp true fuel e ((cs.drop (i * P.cellsOf e)).take (P.cellsOf e))) = some xs)
    (hw : ∀ n ∈ DataW.weightsAll P e (xs.map (·.1)), n ≤ reachBytes) : ∀ i, i < m → ∃ x, Rep (ML w) t x (seg cs (i * t.size) t.size) := fun i hi => by
  obtain ⟨h1, h2⟩ := zD hm
  rw [List.length_range] at h1
  have := h2 i (by simpa using hi) (by omega)
  rw [List.getElem_range, ig hte he, hs] at this
  have hle : (i + 1) * t.size ≤ m * t.size := Nat.mul_le_mul_right _ hi
  rw [Nat.succ_mul] at hle
  refine hgo _ (xs[i]'(by omega)).1 (xs[i]'(by omega)).2 (fa (by omega)) this fun n hn => hw n (lv (List.mem_map.2 ⟨xs[i]'(by omega), List.getElem_mem _, rfl⟩) n hn)
omit hte in
theorem aoI {fuel : Nat} {e : TypeId} {c : Value} {d : DataW H} {ps : List MemPlace} (hu : P.underlying e = some (.int .u64)) (hr : DataW.trod enc P w 0 sp true fuel e [c] = some (d, ps)) : ∃ x : UInt64, c = fO x := by
  cases fuel with
  | zero => simp [DataW.trod] at hr
  | succ fuel =>
    simp only [DataW.trod, hu] at hr
    cases c <;> simp only at hr <;> try (cases hr; done)
    rename_i k' n
    split at hr
    · rename_i hk
      obtain ⟨rfl, hwf⟩ := hk
      have := bounds_u64 hwf
      refine ⟨UInt64.ofNat n.toNat, ?_⟩
      simp only [fO, UInt64.toNat_ofNat']
      congr 1
      omega
    · cases hr
theorem vf : ∀ (k fuel : Nat) (T : TypeId) (y : Ty) (cs : List Value) (d : DataW H) (ps : List MemPlace), v8 te k T y = true → cs.length = y.size → DataW.trod enc P w 0 sp true fuel T cs = some (d, ps) →
    (∀ n ∈ d.weights P T, n ≤ reachBytes) → ∃ x, Rep (ML w) y x cs
  | 0, _, _, _, _, _, _, h, _, _, _ => by simp [v8] at h
  | k + 1, 0, _, _, _, _, _, _, _, h, _ => by simp [DataW.trod] at h
  | k + 1, fuel + 1, T, y, cs, d, ps, h, hl, hr, hw => by
    simp only [v8] at h
    split at h
    · cases h
    · rename_i ti hT
      obtain ⟨ds, hu, hd⟩ := (hte T ti hT).desc
      have hcells := ig hte hT
      simp only [DataW.trod, hu] at hr
      split at h
      · -- bool
        rename_i he
        rw [he] at hd
        simp only at hd
        subst hd
        match cs, hl with
        | [c], hl1 =>
          cases c <;> simp only [Option.some.injEq] at hr <;> try (cases hr; done)
          exact ⟨_, rfl⟩
      · rename_i he
        rw [he] at hd
        simp only at hd
        subst hd
        match cs, hl with
        | [c], hl1 =>
          cases c <;> simp only at hr <;> try (cases hr; done)
          rename_i k' n
          split at hr
          · rename_i hk
            obtain ⟨rfl, hwf⟩ := hk
            have := bounds_u64 hwf
            refine ⟨UInt64.ofNat n.toNat, ?_⟩
            simp only [Rep, fO, UInt64.toNat_ofNat']
            congr 2
            omega
          · cases hr
      · rename_i he
        rw [he] at hd
        simp only at hd
        subst hd
        match cs, hl with
        | [c], hl1 =>
          cases c <;> simp only at hr <;> try (cases hr; done)
          rename_i k' n
          split at hr
          · rename_i hk
            obtain ⟨rfl, hwf⟩ := hk
            have := bounds_u8 hwf
            refine ⟨UInt8.ofNat n.toNat, ?_⟩
            simp only [Rep, vu8, UInt8.toNat_ofNat']
            congr 2
            omega
          · cases hr
      · rename_i he
        rw [he] at hd
        simp only at hd
        subst hd
        match cs, hl with
        | [c], hl1 =>
          cases c <;> simp only at hr <;> try (cases hr; done)
          rename_i k' n
          split at hr
          · rename_i hk
            obtain ⟨rfl, hwf⟩ := hk
            have := bounds_i64 hwf
            exact ⟨n, rfl, aK (by omega)⟩
          · cases hr
      · rename_i he
        rw [he] at hd
        simp only at hd
        subst hd
        match cs, hl with
        | [c], hl1 =>
          cases c <;> simp only at hr <;> try (cases hr; done)
          rename_i s
          split at hr
          · cases hr
            refine ⟨s.data.toList, ?_⟩
            have := hw s.data.toList.length (by simp [DataW.weights])
            unfold reachBytes at this
            simp only [Rep]
            exact ⟨trivial, by unfold cj; omega⟩
          · cases hr
      · -- four words
        rename_i m e he
        rw [he] at hd
        simp only at hd
        subst hd
        simp only [Bool.and_eq_true] at h
        obtain ⟨h1, h2, h3⟩ := h
        split at h1
        · rename_i ei hei
          rw [Bool.and_eq_true] at h1
          obtain ⟨h4, h5⟩ := h1
          split at h4
          · rename_i hed
            have h2 := Nat.eq_of_beq_eq_true h2
            have h5 := Nat.eq_of_beq_eq_true h5
            subst h2
            obtain ⟨de, hue, hde⟩ := (hte e ei hei).desc
            rw [hed] at hde
            simp only at hde
            subst hde
            have hl4 : cs.length = 4 := hl
            simp only at hr
            rw [if_pos (by rw [hcells]; rw [hl4]; exact (Nat.eq_of_beq_eq_true h3).symm)] at hr
            simp only [Option.map_eq_some_iff] at hr
            obtain ⟨xs, hm, hx⟩ := hr
            obtain ⟨m1, m2⟩ := zD hm
            rw [List.length_range] at m1
            match cs, hl4 with
            | [c0, c1, c2, c3], hl1 =>
              have key : ∀ i (hi : i < 4), ∃ x : UInt64, [c0, c1, c2, c3][i] = fO x := fun i hi => by
                have := m2 i (by simpa using hi) (by omega)
                rw [List.getElem_range, ig hte hei, h5, Nat.mul_one] at this
                have e2 : ([c0, c1, c2, c3].drop i).take 1 = [[c0, c1, c2, c3][i]] := by
                  rw [List.drop_eq_getElem_cons (by simpa using hi)]
                  rfl
                rw [e2] at this
                exact aoI hue this
              obtain ⟨x0, k0⟩ := key 0 (by omega)
              obtain ⟨x1, k1⟩ := key 1 (by omega)
              obtain ⟨x2, k2⟩ := key 2 (by omega)
              obtain ⟨x3, k3⟩ := key 3 (by omega)
              simp only [List.getElem_cons_zero, List.getElem_cons_succ] at k0 k1 k2 k3
              exact ⟨⟨x0, x1, x2, x3⟩, by simp only [Rep, k0, k1, k2, k3]⟩
          · cases h4
        · cases h1
      · -- an array
        rename_i m e k' t he
        rw [he] at hd
        simp only at hd
        subst hd
        simp only [Bool.and_eq_true] at h
        obtain ⟨h1, h2, h3, h4⟩ := h
        have h1 := Nat.eq_of_beq_eq_true h1
        subst h1
        obtain ⟨ei, hei, hs⟩ := tg h2
        have hl' : cs.length = m * t.size := hl
        simp only at hr
        rw [if_pos (by rw [hcells, hl']; exact (Nat.eq_of_beq_eq_true h3).symm)] at hr
        simp only [Option.map_eq_some_iff] at hr
        obtain ⟨xs, hm, hx⟩ := hr
        cases hx
        have key := ajJ (go := fun _ _ => true) hte hei hs (fun c d ps h1 h2 h3 => vf k fuel e t c d ps h4 h1 h2 h3) hl' hm (fun n hn => hw n (by simp only [DataW.weights, hu]; exact hn))
        obtain ⟨l, l1, l2⟩ := tY (d := t.d) m key
        exact ⟨l, hl', l1, l2⟩
      · -- a slice
        rename_i e t he
        rw [he] at hd
        simp only at hd
        subst hd
        rw [Bool.and_eq_true] at h
        obtain ⟨h1, h4⟩ := h
        split at h1
        · rename_i ei hei
          simp only [Bool.and_eq_true] at h1
          obtain ⟨h1, h2, h3⟩ := h1
          have hs := Nat.eq_of_beq_eq_true h1
          have hpos := dB h2
          have hby := dB h3
          match cs, hl with
          | [c], hl1 =>
            cases c <;> try (exfalso; simp at hr; done)
            rename_i ad len cap
            cases ad with
            | none =>
              rcases len with _ | len
              · rcases cap with _ | cap
                · exact ⟨[], by simp only [Rep]; exact ⟨Nat.zero_le _, none, 0, rfl, Nat.le_refl _, .inl trivial⟩⟩
                · cases hr
              · cases hr
            | some a =>
              simp only at hr
              split at hr
              · rename_i hcond
                obtain ⟨_, hlc, _⟩ := hcond
                simp only [Option.bind_eq_some_iff, Option.map_eq_some_iff] at hr
                obtain ⟨elems, hm, rest, _, hx⟩ := hr
                cases hx
                obtain ⟨m1, m2⟩ := zD hm
                rw [List.length_range] at m1
                have hwt := hw ((elems.length + rest.length) * P.bytesOf e) (by simp [DataW.weights, hu])
                rw [Km hte hei] at hwt
                have hlen : len ≤ cj := by
                  have : elems.length ≤ (elems.length + rest.length) * ei.bytes := Nat.le_trans (Nat.le_add_right _ _) (Nat.le_mul_of_pos_right _ hby)
                  unfold reachBytes at hwt
                  unfold cj
                  omega
                rcases Nat.eq_zero_or_pos len with h0 | h0
                · subst h0
                  exact ⟨[], by simp only [Rep]; exact ⟨Nat.zero_le _, _, _, rfl, Nat.zero_le _, .inl trivial⟩⟩
                · have key : ∀ i, i < len → ∃ c, w.cells? 0 (a.add (i * t.size)) t.size = some c ∧ ∃ x, Rep (ML w) t x c := fun i hi => by
                    have := m2 i (by simpa using hi) (by omega)
                    rw [List.getElem_range, ig hte hei, hs] at this
                    obtain ⟨c, hc, hrr⟩ := Option.bind_eq_some_iff.1 this
                    refine ⟨c, hc, vf k fuel e t c (elems[i]'(by omega)).1 (elems[i]'(by omega)).2 h4 ?_ hrr fun n hn => hw n ?_⟩
                    · obtain ⟨arr, E, fz, _, _, hle, rfl⟩ := Nj (by omega) hc
                      exact fa (by simpa using hle)
                    · simp only [DataW.weights, hu, List.mem_cons, List.mem_append]
                      exact .inr (.inl (lv (List.mem_map.2 ⟨elems[i]'(by omega), List.getElem_mem _, rfl⟩) n hn))
                  obtain ⟨c0, hc0, _⟩ := key 0 h0
                  rw [Nat.zero_mul] at hc0
                  obtain ⟨arr, E, fz, hb, hsp, _, _⟩ := Nj (by omega) hc0
                  have hb' : w.heap[a.block]? = some (.cells arr E fz) := hb
                  have hsp' : a.spot = none := hsp
                  have at_i : ∀ i, i < len → a.off + i * t.size + t.size ≤ arr.size ∧ ∃ x, Rep (ML w) t x (seg arr.toList (a.off + i * t.size) t.size) := fun i hi => by
                    obtain ⟨c, hc, x, hx⟩ := key i hi
                    obtain ⟨arr2, E2, fz2, hb2, _, hle, rfl⟩ := Nj (by omega) hc
                    have hblk : (a.add (i * t.size)).block = a.block := by unfold Addr.add; split <;> rfl
                    have hoff : (a.add (i * t.size)).off = a.off + i * t.size := by
                      unfold Addr.add
                      split
                      · rename_i h; rw [h]; rfl
                      · rfl
                    rw [hblk, hb'] at hb2
                    cases hb2
                    rw [hoff] at hle hx
                    exact ⟨hle, x, hx⟩
                  obtain ⟨l, l1, l2⟩ := tY (d := t.d) len fun i hi => (at_i i hi).2
                  refine ⟨l, ?_⟩
                  simp only [Rep]
                  refine ⟨by omega, some a, cap, by rw [l1], by omega, .inr ⟨a.block, a.off, arr, E, fz, ?_, hb', ?_, fun i hi => l2 i (by omega)⟩⟩
                  · obtain ⟨blk, off, spot⟩ := a
                    simp only at hsp'
                    rw [hsp']
                  · have := (at_i (len - 1) (by omega)).1
                    have e2 : (len - 1) * t.size + t.size = len * t.size := by
                      rw [← Nat.succ_mul]
                      congr 1
                      omega
                    rw [l1]
                    omega
              · cases hr
        · cases h1
      · -- a struct
        rename_i y _ _ fs he
        rw [he] at hd
        simp only at hd
        obtain ⟨fields, rfl, hf, _⟩ := hd
        rw [Bool.and_eq_true] at h
        have hsz := Nat.eq_of_beq_eq_true h.1
        simp only at hr
        rw [if_pos (by rw [hcells, hl]; exact hsz.symm)] at hr
        simp only [Option.map_eq_some_iff] at hr
        obtain ⟨xs, hm, hx⟩ := hr
        cases hx
        have h2 := h.2
        rw [← hf] at h2
        have := J5 hte (go := v8 te k) (cs := cs) (fun T y c d ps a b c' d' => vf k fuel T y c d ps a b c' d') fields.toList 0 y xs h2 (by omega) hm (fun n hn => hw n (by simp only [DataW.weights, hu]; exact hn))
        simpa using this
      · cases h
end
end Sx
end Go.Proofs.Ytohjofabochgfaa

namespace Go.Proofs.Ytohjofabochgfaa
namespace Sx
open Go Go.RowKit Go.ChangeShapes Go.WideShapes Go.ChangeAt
def ajK (te : TE) (k : Nat) : List TypeId → List (Bool × Ty) → Bool
  | [], [] => true
  | T :: ts, (b, y) :: r => (match te T with
    | some ti => (b == ti.desc.agg) && Nat.beq ti.size y.size
    | none => false) && (v8 te k T y && ajK te k ts r)
  | _, _ => false
section
variable {H : Type} {enc : TypeId × Value → H} {P : Program} {te : TE} (hte : li P te) {w : World} {sp : Nat → Bool}
include hte
theorem amj {k : Nat} {T : TypeId} {y : Ty} {ti : TI} {v : Value} {d : DataW H} {ps : List MemPlace} (hT : te T = some ti) (hs : ti.size = y.size) (hp : v8 te k T y = true) {base : Nat} (hok : Value.okWide P w .any base T v)
    (h : DataW.Trod enc P w 0 sp true T v d ps) (hw : ∀ n ∈ d.weights P T, n ≤ reachBytes) : ∃ x : y.T, SV.rel (e9 w) (inj ti.desc.agg y x) v := by
  obtain ⟨fuel, hf⟩ := h
  obtain ⟨ds, hu, hd⟩ := (hte T ti hT).desc
  cases hagg : ti.desc.agg
  · have hone : v.cells.toList = [v] ∧ v.oneCell' = true := by
      have hc : Cell.okWide P w .any base T v := by
        unfold Value.okWide at hok
        rw [hu] at hok
        cases ds <;> first | exact hok | skip
        all_goals (
          cases hk : ti.desc <;> rw [hk] at hd hagg <;> simp only [TD.agg] at hd hagg <;>
            first | (cases hagg; done) | (cases hd; done) | (obtain ⟨e, he⟩ := hd; cases he; done) | (obtain ⟨⟨e, he⟩, _⟩ := hd; cases he; done) | exact absurd hd id)
      unfold Cell.okWide Cell.ok at hc
      rw [hu] at hc
      cases v <;> first | exact ⟨rfl, rfl⟩ | (exfalso; cases ds <;> first | exact hc | (simp at hc; done))
    rw [hone.1] at hf
    have hsz : y.size = 1 := by rw [← hs]; exact (hte T ti hT).one hagg
    obtain ⟨x, hx⟩ := vf hte k fuel T y [v] d ps hp (by rw [hsz]; rfl) hf hw
    refine ⟨x, ?_⟩
    have hr := fb (R := e9 w) y x [v] hx
    simp only [inj, ol, Bool.false_eq_true, if_false]
    have hl := fR y x
    rw [hsz] at hl
    match hc : unpack y x, hl with
    | [u], _ =>
      rw [hc] at hr
      obtain ⟨v', e, h⟩ := cf hr
      cases e
      exact h
  · have hv : ∃ cs, v = .agg cs ∧ cs.size = P.cellsOf T := by
      unfold Value.okWide at hok
      rw [hu] at hok
      cases hk : ti.desc <;> rw [hk] at hd hagg <;> simp only [TD.agg] at hd hagg <;> try (cases hagg; done)
      · obtain ⟨fields, rfl, _⟩ := hd
        obtain ⟨cs, h1, h2, _⟩ := hok
        exact ⟨cs, h1, h2⟩
      · subst hd
        obtain ⟨cs, h1, h2, _⟩ := hok
        exact ⟨cs, h1, h2⟩
    obtain ⟨cs, rfl, hsz⟩ := hv
    obtain ⟨x, hx⟩ := vf hte k fuel T y cs.toList d ps hp (by rw [Array.length_toList, hsz, ig hte hT, hs]) hf hw
    exact ⟨x, wc (fb (R := e9 w) y x _ hx) (nY _ _ _ hx)⟩
theorem Qg {k base : Nat} : ∀ {ts : List TypeId} {kd : List (Bool × Ty)} {vs : List Value} {ds : List (DataW H)} {ps : List MemPlace}, ajK te k ts kd = true →
    (∀ (j : Nat) t v, ts[j]? = some t → vs[j]? = some v → Value.okWide P w .any base t v) → DataW.TrodAll enc P w 0 sp true ts vs ds ps → (DataW.weightsEach P ts ds).all (· ≤ reachBytes) = true →
    ∃ x : ATy kd, SV.bA (e9 w) (amx kd x) vs
  | [], [], [], [], _, _, _, _, _ => ⟨(), by simp only [amx, SV.bA]⟩
  | [], [], v :: vs, _, _, _, _, h, _ => by simp [DataW.TrodAll] at h
  | [], [], [], d :: ds, _, _, _, h, _ => by simp [DataW.TrodAll] at h
  | [], a :: kd, _, _, _, h, _, _, _ => by simp [ajK] at h
  | T :: ts, [], _, _, _, h, _, _, _ => by simp [ajK] at h
  | T :: ts, (b, y) :: kd, [], _, _, _, _, h, _ => by simp [DataW.TrodAll] at h
  | T :: ts, (b, y) :: kd, v :: vs, [], _, _, _, h, _ => by simp [DataW.TrodAll] at h
  | T :: ts, (b, y) :: kd, v :: vs, d :: ds, ps, h, hok, ht, hw => by
    obtain ⟨p, q, h1, h2, rfl⟩ := ht
    simp only [ajK, Bool.and_eq_true] at h
    obtain ⟨hb, hp, hr⟩ := h
    split at hb
    · rename_i ti hT
      rw [Bool.and_eq_true] at hb
      have e1 : b = ti.desc.agg := by simpa using hb.1
      subst e1
      simp only [DataW.weightsEach, List.all_append, Bool.and_eq_true] at hw
      obtain ⟨x, hx⟩ := amj hte hT (Nat.eq_of_beq_eq_true hb.2) hp (hok 0 T v rfl rfl) h1 fun n hn => by simpa using List.all_eq_true.1 hw.1 n hn
      obtain ⟨xs, hxs⟩ := Qg hr (fun j t u h1 h2 => hok (j + 1) t u h1 h2) h2 hw.2
      exact ⟨(x, xs), by simp only [amx, SV.bA]; exact ⟨v, vs, rfl, hx, hxs⟩⟩
    · cases hb
end
theorem alD {S : ao} {pre : S.T → Bool} {F : S.T → OT S.Y} {args : List SV} {X : S.T} {out : Out} (hp : S.inp.prj ⟨args, ahl⟩ = some X) (hpre : pre X = true)
    (hr : ((F X).bind fun oy => S.emit (S.inp.bd ⟨args, ahl⟩) 0 ahl oy.1 oy.2).run = some out) : ((S.aE pre F).f 0 args ahl).run = some out := by
  simp only [ao.aE, hp, hpre]
  exact hr
theorem KG {H : Type} {enc : TypeId × Value → H} {P : Program} {w w' : World} (hl : laidOutB P = true) (hb : Below w.heap.size w w') : ∀ {ts : List TypeId} {vs : List Value} {ds : List (DataW H)} {ps : List MemPlace},
    ts.all (fun t => P.readableRec t && Nat.blt t P.types.size) = true → DataW.TrodAll enc P w 0 (fun _ => true) true ts vs ds ps → DataW.TrodAll enc P w' 0 (fun b => decide (b < w.heap.size)) true ts vs ds ps
  | [], [], [], _, _, h => h
  | [], v :: vs, _, _, _, h => by simp [DataW.TrodAll] at h
  | [], [], d :: ds, _, _, h => by simp [DataW.TrodAll] at h
  | T :: ts, [], _, _, _, h => by simp [DataW.TrodAll] at h
  | T :: ts, v :: vs, [], _, _, h => by simp [DataW.TrodAll] at h
  | T :: ts, v :: vs, d :: ds, ps, hr, h => by
    obtain ⟨p, q, h1, h2, rfl⟩ := h
    simp only [List.all_cons, Bool.and_eq_true] at hr
    have lt1 : ∀ x ∈ p, x.block < w.heap.size := by obtain ⟨m, hm⟩ := h1; exact DataW.trod_lt m _ _ _ hm
    exact ⟨p, q, Below.trod hl hr.1.1 (dB hr.1.2) h1 hb lt1, KG hl hb hr.2 h2, rfl⟩
end Sx
end Go.Proofs.Ytohjofabochgfaa

namespace Go.Proofs.Ytohjofabochgfaa
namespace Sx
open Go
theorem aof {P : Program} {f : FuncId} {S : ao} {k : Nat} (hk : S.chunks.all (fun c => Nat.blt c.1 k && !c.2.wl) = true) {pre : S.T → Bool} {F : S.T → OT S.Y}
    (h : ∀ (x : S.T) (oy : S.Y) (vs : List Value) (N : Ctx) (w : World), pre x = true → (F x).run = some oy → SV.bA N (S.inp.inj x).tm vs →
      ∃ v u, (callFunc f vs.toArray).run P w = .ok (.value u) w ∧ SV.rel N v u ∧ oy.1.is oy.2 false v (dE S.chunks x.2)) : aa P f (S.aE pre F) := by
  refine ⟨?_⟩
  intro R w d args vs out hm hr hrun
  simp only [ao.aE] at hrun
  split at hrun
  · cases hrun
  · rename_i x hx
    obtain ⟨hpre, h2⟩ := OT.aD hrun
    obtain ⟨oy, h3, h4⟩ := OT.run_bind h2
    unfold ao.emit at h4
    dsimp only at h4
    obtain ⟨hend, h5⟩ := OT.aD h4
    have hx' := hx
    unfold Shape.prj at hx'
    dsimp only at hx'
    cases hbo : S.inp.HF ⟨args, R.hp⟩ (S.inp.bd ⟨args, R.hp⟩) && Nat.beq args.length S.inp.n
    · rw [hbo] at hx'; cases hx'
    · rw [hbo] at hx'
      rw [Bool.and_eq_true] at hbo
      obtain ⟨hx1, hx2⟩ := bp hx'
      have hlen : args.length = S.inp.n := Nat.eq_of_beq_eq_true hbo.2
      have hN := Mu (s := S.inp) (st := ⟨args, R.hp⟩) (F' := R.Bw (S.inp.bd ⟨args, R.hp⟩) S.bB w) (U' := R.HV (S.inp.bd ⟨args, R.hp⟩) S.bB w) hbo.1 hx2 rfl hm (Qw hm) (MD hm) ahH (Qv hm) Qu an9 hm.env
      have hargs : SV.bA (R.named (R.Bw (S.inp.bd ⟨args, R.hp⟩) S.bB w) (R.HV (S.inp.bd ⟨args, R.hp⟩) S.bB w) (S.inp.bd ⟨args, R.hp⟩) (dE S.chunks x.2)) (S.inp.inj x).tm vs :=
        kV (s := S.inp) (st := ⟨args, R.hp⟩) hbo.1 hx2 rfl hm (Qw hm) (MD hm) hr hx1 (SV.yW (by rw [List.length_replicate, ← hlen]; exact SV.aM hr) fun i hi hi' => by simp [SV.rel])
      obtain ⟨v, u, hv, hru, his⟩ := h x oy vs _ w hpre h3 hargs
      obtain ⟨R', a1, a2⟩ := aik hm hx hk (Ctx.Ext.refl _) hN hru his hend
      rw [his.1] at h5
      cases h5
      exact .inr ⟨u, w, hv, u, R', rfl, a1, a2⟩
end Sx
end Go.Proofs.Ytohjofabochgfaa

namespace Go.Proofs.Ytohjofabochgfaa
namespace Sx
open Go
def Out.after (u : List (Nat × Ch)) : Out → Out
  | .ret e => .ret ⟨e.v, u ++ e.upd⟩
  | .pan v u' => .pan v (u ++ u')
def akn (c0 e0 : Nat) (vs : List SV) (j c e : Nat) (t : Ty) (xs : List t.T) : List (Nat × Ch) := [(c, ⟨e + 1, .row .u8 []⟩), (c0, ⟨e0, .cells (vs.set j (.lst t xs))⟩)]
def ako (s : bL) (j : Nat) (d : Nat) (args : List SV) (hp : Hp) (c0 e0 : Nat) (vs : List SV) : Option SV → OT Out
  | some (.own c e) => match dF hp c e with
    | some (.row t xs) => cond (Nat.beq c c0) .fail ((s.f d args (di hp (akn c0 e0 vs j c e t xs))).map (Out.after (akn c0 e0 vs j c e t xs)))
    | some _ => s.f d args hp
    | none => .fail
  | _ => s.f d args hp
def atI (k j : Nat) (s : bL) : bL := ⟨true, fun d args hp =>
  match args.getD k .bT with
  | .ptr c0 e0 0 0 => match dF hp c0 e0 with
    | some (.cells vs) => ako s j d args hp c0 e0 vs vs[j]?
    | some _ => s.f d args hp
    | none => .fail
  | _ => s.f d args hp⟩
theorem Mx {α β : Type} {f : α → β} {x : OT α} {a : α} (h : x.run = some a) : (x.map f).run = some (f a) := by
  induction x with
  | ok b => cases h; rfl
  | br b u v hu hv =>
    cases b
    · exact hv h
    · exact hu h
  | fail => cases h
theorem cU.trans {R R1 R2 : Ctx} {w w' : World} {u u' : List (Nat × Ch)} (h : cU R R1 w u) (h' : cU R1 R2 w' u') : cU R R2 w' (u ++ u') :=
  ⟨h.ext.trans h'.ext, by rw [h'.hp, h.hp, fK], h'.mem⟩
theorem Xv {R : Ctx} {w : World} (hm : cP R w) {c e : Nat} {t : Ty} {xs : List t.T} (hc : R.hp c = some ⟨e, .row t xs⟩) :
    ∃ R1, cU R R1 w [(c, ⟨e + 1, .row .u8 []⟩)] ∧ ∀ v, R.own c e v → SV.rel R1 (.lst t xs) v := by
  have h0 := hm.ch c _ hc
  cases hσ : R.σ c with
  | none =>
    simp only [dT, hσ] at h0
    obtain ⟨_, hl, rfl⟩ := h0
    have hx : R.Ext (R.upd c ⟨e + 1, .row .u8 []⟩) := ⟨fun _ _ h => h, rfl, fun c' ch' hc' => by
      by_cases h1 : c' = c
      · subst h1
        rw [hc] at hc'
        cases hc'
        exact ⟨⟨e + 1, .row .u8 []⟩, by simp only [Ctx.upd, if_true], Nat.le_succ e, fun e' => absurd e' (by simp)⟩
      · exact ⟨ch', by simp only [Ctx.upd, if_neg h1, hc'], Nat.le_refl _, fun _ => ⟨rfl, rfl⟩⟩⟩
    refine ⟨R.upd c ⟨e + 1, .row .u8 []⟩, ⟨hx, rfl, ?_⟩, fun v hv => ?_⟩
    · refine cP.turn hm hx rfl rfl (fun _ _ => rfl) w.heap.size (fun _ _ _ => rfl) ⟨hm.NT, hm.NO, fun n ch L hn h1 h2 h3 => ?_⟩ ?_ (fun L h2 => ?_)
      · have := hm.lt h1 h2 h3; omega
      · simp only [dT, Ctx.upd, hσ]
        exact ⟨by decide, by simp, trivial⟩
      · have h2 : R.σ c = some L := h2
        rw [hσ] at h2; cases h2
    · have hp := Ctx.cA hc hv
      obtain ⟨_, _, ad, cap, rfl, h4, h5⟩ := Ctx.cI hc hp
      simp only [SV.rel, Rep]
      exact ⟨Nat.zero_le _, ad, cap, rfl, h4, .inl trivial⟩
  | some L =>
    simp only [dT, hσ] at h0
    obtain ⟨hpos, hl, hF, hU, arr, E, k1, k2, k3, k4⟩ := h0
    have ha := MC hm hc hσ (w₁ := w) (fun _ _ => rfl) k1 ⟨rfl, rfl, rfl⟩
    refine ⟨_, ha, fun v hv => ?_⟩
    have hp := Ctx.cA hc hv
    obtain ⟨_, _, ad, cap, rfl, h4, h5⟩ := Ctx.cI hc hp
    rw [hσ] at h5
    simp only [Chunk.shape, Nat.zero_mul, Nat.add_zero] at h4 h5
    simp only [SV.rel, Rep]
    refine ⟨hl, ad, cap, rfl, h4, ?_⟩
    by_cases hx : xs = []
    · exact .inl hx
    · have hxl : 0 < xs.length := List.length_pos_iff.2 hx
      have had := h5.2 (by omega)
      subst had
      exact .inr ⟨L.block, L.base, arr, E, (0, 0), rfl, by simp only [Ctx.kH, if_true], by omega, fun i hi => bC ha.ext.F _ _ _ (k4 i hi)⟩
theorem yV {R : Ctx} : ∀ {l : List SV} {vs : List Value} (j : Nat) (x : SV), SV.bA R l vs → (∀ v, vs[j]? = some v → SV.rel R x v) → SV.bA R (l.set j x) vs
  | [], _, _, _, h, _ => h
  | y :: l, vs, 0, x, h, hx => by
    simp only [SV.bA] at h
    obtain ⟨v, r, rfl, h1, h2⟩ := h
    simp only [List.set_cons_zero, SV.bA]
    exact ⟨v, r, rfl, hx v rfl, h2⟩
  | y :: l, vs, j + 1, x, h, hx => by
    simp only [SV.bA] at h
    obtain ⟨v, r, rfl, h1, h2⟩ := h
    simp only [List.set_cons_succ, SV.bA]
    exact ⟨v, r, rfl, h1, yV j x h2 fun u hu => hx u hu⟩
theorem Ug {R : Ctx} : ∀ {l : List SV} {vs : List Value} {j : Nat} {x : SV}, SV.bA R l vs → l[j]? = some x → ∃ v, vs[j]? = some v ∧ SV.rel R x v
  | y :: l, vs, 0, x, h, hx => by
    simp only [SV.bA] at h
    obtain ⟨v, r, rfl, h1, h2⟩ := h
    cases hx
    exact ⟨v, rfl, h1⟩
  | y :: l, vs, j + 1, x, h, hx => by
    simp only [SV.bA] at h
    obtain ⟨v, r, rfl, h1, h2⟩ := h
    exact Ug (j := j) h2 hx
  | [], _, _, _, _, hx => by cases hx
theorem aaX {R : Ctx} {w : World} (hm : cP R w) {c0 e0 j c e : Nat} {vs : List SV} {t : Ty} {xs : List t.T} (h0 : R.hp c0 = some ⟨e0, .cells vs⟩) (hj : vs[j]? = some (.own c e)) (hc : R.hp c = some ⟨e, .row t xs⟩) (hne : c ≠ c0) :
    ∃ R1, cU R R1 w (akn c0 e0 vs j c e t xs) := by
  obtain ⟨R1, ha, hrel⟩ := Xv hm hc
  have hch := hm.ch c0 _ h0
  simp only [dT] at hch
  obtain ⟨L, hL, hF, hU, arr, E, k1, k2, k3, k4, k5⟩ := hch
  have h0' : R1.hp c0 = some ⟨e0, .cells vs⟩ := by
    rw [ha.hp]
    show (if c0 = c then _ else R.hp c0) = _
    rw [if_neg (fun e => hne e.symm)]
    exact h0
  have hch1 := ha.mem.ch c0 _ h0'
  simp only [dT] at hch1
  obtain ⟨L1, hL1, hF1, hU1, arr1, E1, q1, q2, q3, q4, q5⟩ := hch1
  obtain ⟨ch', hc1, hep, hsame⟩ := ha.ext.ch c0 _ h0
  have hL1' : R1.σ c0 = R.σ c0 := by
    rw [h0'] at hc1
    cases hc1
    exact (hsame rfl).2
  rw [hL1', hL] at hL1
  cases hL1
  rw [k1] at q1
  cases q1
  obtain ⟨v, hv, hvr⟩ := Ug k4 hj
  simp only [SV.rel] at hvr
  have hx : R1.Ext (R1.upd c0 ⟨e0, .cells (vs.set j (.lst t xs))⟩) := Ctx.Ti h0' (Nat.le_refl _) (fun _ => by simp only [Chunk.shape, List.length_set])
  refine ⟨R1.upd c0 ⟨e0, .cells (vs.set j (.lst t xs))⟩, ha.ext.trans hx, ?_, ?_⟩
  · show (fun n => if n = c0 then some _ else R1.hp n) = _
    rw [ha.hp]
    rfl
  · refine cP.turn ha.mem hx rfl rfl (fun _ _ => rfl) L.block (fun _ _ _ => rfl) ⟨hF1, hU1, fun n ch2 L2 hn hn2 hm2 hs2 heq => hn (ha.mem.apart n c0 _ _ L2 L hn2 h0' hm2 rfl hs2 (hL1'.trans hL) heq)⟩ ?_ (fun L2 h2 => ?_)
    · simp only [dT]
      refine ⟨L, hL1'.trans hL, hF1, hU1, arr, E, k1, k2, by rw [List.length_set]; exact k3, ?_, k5⟩
      refine SV.cZ hx _ _ (yV j _ q4 fun u hu => ?_)
      rw [hv] at hu
      cases hu
      exact hrel _ hvr.2
    · have h3 : R1.σ c0 = some L2 := h2
      rw [hL1', hL] at h3
      cases h3
      rfl
end Sx
end Go.Proofs.Ytohjofabochgfaa

namespace Go.Proofs.Ytohjofabochgfaa
namespace Sx
open Go
def ab6 (u : List (Nat × Ch)) (c e : Nat) : Option Chunk := match di ahl u c with
  | some ⟨ep, b⟩ => cond (Nat.beq ep e) (some b) none
  | none => none
theorem JC {u : List (Nat × Ch)} {c e : Nat} {b : Chunk} (h : ab6 u c e = some b) {hp : Hp} : di hp u c = some ⟨e, b⟩ := by
  unfold ab6 at h
  split at h
  · rename_i ep b' hq
    cases hb : Nat.beq ep e
    · rw [hb] at h; cases h
    · rw [hb] at h
      cases h
      rw [Nat.eq_of_beq_eq_true hb] at hq
      by_cases hin : c ∈ ba u
      · rw [Mk u hin (hp' := ahl)]; exact hq
      · rw [cR u hin] at hq; cases hq
  · cases h
def hop (u : List (Nat × Ch)) : List Nat → SV → Option (Nat × Nat)
  | [], .ptr c e 0 0 => some (c, e)
  | [], .iface _ (.ptr c e 0 0) => some (c, e)
  | i :: r, .ptr c e 0 0 => match ab6 u c e with
    | some (.cells vs) => hop u r (vs.getD i .bT)
    | _ => none
  | i :: r, .iface _ (.ptr c e 0 0) => match ab6 u c e with
    | some (.cells vs) => hop u r (vs.getD i .bT)
    | _ => none
  | _, _ => none
def asZ : SV → SV
  | .tup (x :: _) => x
  | x => x
def atP (path : List Nat) (j : Nat) (v : SV) (u : List (Nat × Ch)) : List (Nat × Ch) :=
  match hop u path (asZ v) with
  | some (c0, e0) => match ab6 u c0 e0 with
    | some (.cells vs) => match vs[j]? with
      | some (.own c e) => match ab6 u c e with
        | some (.row t xs) => cond (Nat.beq c c0) [] (akn c0 e0 vs j c e t xs)
        | _ => []
      | _ => []
    | _ => []
  | none => []
def Out.atI (path : List Nat) (j : Nat) : Out → Out
  | .ret e => .ret ⟨e.v, e.upd ++ atP path j e.v e.upd⟩
  | .pan v u => .pan v u
def Dy (path : List Nat) (j : Nat) (s : bL) : bL := ⟨s.mod, fun d args hp => (s.f d args hp).map (Out.atI path j)⟩
theorem abZ {R R' : Ctx} {w : World} {path : List Nat} {j : Nat} {v : SV} {u : List (Nat × Ch)} (h : cU R R' w u) : ∃ R1, cU R' R1 w (atP path j v u) := by
  unfold atP
  split
  · rename_i c0 e0 _
    split
    · rename_i vs h0
      split
      · rename_i c e hj
        split
        · rename_i t xs hc
          cases hb : Nat.beq c c0
          · have hne : c ≠ c0 := fun e => by subst e; simp at hb
            exact aaX h.mem (by rw [h.hp]; exact JC h0) hj (by rw [h.hp]; exact JC hc) hne
          · exact ⟨R', cU.nothing h.mem⟩
        · exact ⟨R', cU.nothing h.mem⟩
      · exact ⟨R', cU.nothing h.mem⟩
    · exact ⟨R', cU.nothing h.mem⟩
  · exact ⟨R', cU.nothing h.mem⟩
theorem aaY {P : Program} {f : FuncId} {s : bL} {path : List Nat} {j : Nat} (h : aa P f s) : aa P f (Dy path j s) := by
  refine ⟨fun R w d args vs out hm hr hrun => ?_⟩
  simp only [Dy] at hrun
  obtain ⟨out', h1, rfl⟩ := OT.run_map hrun
  have hpost : ∀ en w', io R out' en w' → io R (Out.atI path j out') en w' := fun en w' hp => by
    cases out' with
    | ret q =>
      obtain ⟨v, R', h2, h3, h4⟩ := hp
      obtain ⟨R1, h5⟩ := abZ (path := path) (j := j) (v := q.v) h3
      exact ⟨v, R1, h2, h3.trans h5, SV.Uf h5.ext _ _ h4⟩
    | pan q u => exact hp
  rcases h.calls R w d args vs out' hm hr h1 with ⟨fn, f1, f2, f3, hcl⟩ | ⟨v, w', hv, hp⟩
  · exact .inl ⟨fn, f1, f2, f3, hcl.mono hpost⟩
  · exact .inr ⟨v, w', hv, hpost _ _ hp⟩
theorem OS {s : bL} {path : List Nat} {j : Nat} (h : aB s) : aB (Dy path j s) := fun d args hp hp' out hg hrun => by
  simp only [Dy] at hrun ⊢
  obtain ⟨out', h1, rfl⟩ := OT.run_map hrun
  exact Mx (h d args hp hp' out' hg h1)
def ai3 (s0 s1 : bL) : bL := ⟨s0.mod || s1.mod, fun d args hp => match args.getD 0 .bT with
  | .ptr _ _ _ 1 => s1.f d args hp
  | _ => s0.f d args hp⟩
theorem anc {P : Program} {f : FuncId} {s0 s1 : bL} (h0 : aa P f s0) (h1 : aa P f s1) : aa P f (ai3 s0 s1) := by
  refine ⟨fun R w d args vs out hm hr hrun => ?_⟩
  simp only [ai3] at hrun
  split at hrun
  · exact h1.calls R w d args vs out hm hr hrun
  · exact h0.calls R w d args vs out hm hr hrun
theorem adb {s0 s1 : bL} (h0 : aB s0) (h1 : aB s1) : aB (ai3 s0 s1) := fun d args hp hp' out hg hrun => by
  simp only [ai3] at hrun ⊢
  split at hrun
  · exact h1 d args hp hp' out hg hrun
  · exact h0 d args hp hp' out hg hrun
def oC (k : Nat) (s : bL) : bL := ⟨true, fun d args hp => match args.getD k .bT with
  | .own c e => match dF hp c e with
    | some (.row t xs) => (s.f d (args.set k (.lst t xs)) (di hp [(c, ⟨e + 1, .row .u8 []⟩)])).map (Out.after [(c, ⟨e + 1, .row .u8 []⟩)])
    | some _ => s.f d args hp
    | none => .fail
  | _ => s.f d args hp⟩
theorem qL {P : Program} {f : FuncId} {s : bL} {k : Nat} (h : aa P f s) : aa P f (oC k s) := by
  refine ⟨fun R w d args vs out hm hr hrun => ?_⟩
  simp only [oC] at hrun
  split at hrun
  · rename_i c e harg
    split at hrun
    · rename_i t xs hc
      obtain ⟨out', h1, rfl⟩ := OT.run_map hrun
      obtain ⟨R1, ha, hrel⟩ := Xv hm (b7 hc)
      rw [← show R1.hp = di R.hp [(c, ⟨e + 1, .row .u8 []⟩)] from ha.hp] at h1
      have hr1 : SV.bA R1 (args.set k (.lst t xs)) vs := yV k _ (SV.cZ ha.ext _ _ hr) fun v hv => by
        have hk : args[k]? = some (.own c e) := by
          rw [List.getD_eq_getElem?_getD] at harg
          cases hq : args[k]? with
          | none => rw [hq] at harg; cases harg
          | some y => rw [hq] at harg; exact congrArg some harg
        obtain ⟨v', hv', hvr⟩ := Ug hr hk
        rw [hv] at hv'
        cases hv'
        simp only [SV.rel] at hvr
        exact hrel v hvr.2
      have hpost : ∀ en w', io R1 out' en w' → io R (Out.after [(c, ⟨e + 1, .row .u8 []⟩)] out') en w' := fun en w' hp => by
        cases out' with
        | ret q =>
          obtain ⟨v, R', h2, h3, h4⟩ := hp
          exact ⟨v, R', h2, ha.trans h3, h4⟩
        | pan q u =>
          obtain ⟨v, R', h2, h3, h4⟩ := hp
          exact ⟨v, R', h2, ha.trans h3, h4⟩
      rcases h.calls R1 w d _ vs out' ha.mem hr1 h1 with ⟨fn, f1, f2, f3, hcl⟩ | ⟨v, w', hv, hp⟩
      · exact .inl ⟨fn, f1, f2, f3, hcl.mono hpost⟩
      · exact .inr ⟨v, w', hv, hpost _ _ hp⟩
    · exact h.calls R w d args vs out hm hr hrun
    · cases hrun
  · exact h.calls R w d args vs out hm hr hrun
theorem kL {s : bL} {k : Nat} (h : aB s) : aB (oC k s) := fun d args hp hp' out hg hrun => by
  simp only [oC] at hrun ⊢
  split at hrun
  · split at hrun
    · rename_i t xs hc
      rw [bF hg hc]
      simp only
      obtain ⟨out', h1, rfl⟩ := OT.run_map hrun
      refine Mx (h d _ _ _ out' ⟨fun n ch hn => ?_, fun n hn hn0 => ?_⟩ h1)
      · simp only [di] at hn ⊢
        split
        · rename_i h2; rw [if_pos h2] at hn; exact hn
        · rename_i h2; rw [if_neg h2] at hn; exact hg.iO _ _ hn
      · simp only [di] at hn0 ⊢
        split
        · rename_i h2; rw [if_pos h2] at hn0; cases hn0
        · rename_i h2; rw [if_neg h2] at hn0; exact hg.free _ hn hn0
    · rename_i b hnr hc
      rw [bF hg hc]
      cases b <;> first | exact h _ _ _ _ _ hg hrun | exact absurd rfl (hnr _ _)
    · cases hrun
  · exact h _ _ _ _ _ hg hrun
end Sx
end Go.Proofs.Ytohjofabochgfaa

namespace Go.Proofs.Ytohjofabochgfaa
open Sx Go
set_option maxRecDepth 100000
def anY : TI := ⟨1, 8, .other, [.bT], none⟩
theorem asy : bi Try.prog 1 anY := ai (by kernel_rfl) (by kernel_rfl) (by kernel_rfl) (by kernel_rfl) (by kernel_rfl) (by kernel_rfl) (by kernel_rfl) (by kernel_rfl) (by kernel_rfl) (by kernel_rfl) (by kernel_rfl) trivial
def anX : TI := ⟨1, 8, .int .i64, [.int 0], some .int⟩
theorem asx : bi Try.prog 2 anX := ai (by kernel_rfl) (by kernel_rfl) (by kernel_rfl) (by kernel_rfl) (by kernel_rfl) (by kernel_rfl) (by kernel_rfl) (by kernel_rfl) (by kernel_rfl) (by kernel_rfl) (by kernel_rfl) ⟨by kernel_rfl, by kernel_rfl, by kernel_rfl⟩
def anW : TI := ⟨1, 8, .int .i64, [.int 0], some .int⟩
theorem asw : bi Try.prog 3 anW := ai (by kernel_rfl) (by kernel_rfl) (by kernel_rfl) (by kernel_rfl) (by kernel_rfl) (by kernel_rfl) (by kernel_rfl) (by kernel_rfl) (by kernel_rfl) (by kernel_rfl) (by kernel_rfl) ⟨by kernel_rfl, by kernel_rfl, by kernel_rfl⟩
def anV : TI := ⟨1, 1, .bool, [.bool false], some .bool⟩
theorem asv : bi Try.prog 4 anV := ai (by kernel_rfl) (by kernel_rfl) (by kernel_rfl) (by kernel_rfl) (by kernel_rfl) (by kernel_rfl) (by kernel_rfl) (by kernel_rfl) (by kernel_rfl) (by kernel_rfl) (by kernel_rfl) ⟨by kernel_rfl, by kernel_rfl, by kernel_rfl⟩
def anU : TI := ⟨1, 1, .int .u8, [.u8 0], some .u8⟩
theorem asu : bi Try.prog 5 anU := ai (by kernel_rfl) (by kernel_rfl) (by kernel_rfl) (by kernel_rfl) (by kernel_rfl) (by kernel_rfl) (by kernel_rfl) (by kernel_rfl) (by kernel_rfl) (by kernel_rfl) (by kernel_rfl) ⟨by kernel_rfl, by kernel_rfl, by kernel_rfl⟩
def anT : TI := ⟨1, 1, .int .u8, [.u8 0], some .u8⟩
theorem ast : bi Try.prog 6 anT := ai (by kernel_rfl) (by kernel_rfl) (by kernel_rfl) (by kernel_rfl) (by kernel_rfl) (by kernel_rfl) (by kernel_rfl) (by kernel_rfl) (by kernel_rfl) (by kernel_rfl) (by kernel_rfl) ⟨by kernel_rfl, by kernel_rfl, by kernel_rfl⟩
def anS : TI := ⟨4, 24, .struct [(0, 2), (1, 3), (2, 4), (3, 6)], [.int 0, .int 0, .bool false, .u8 0], some (.prod .int (.prod .int (.prod .bool .u8)))⟩
theorem ass : bi Try.prog 7 anS := ai (by kernel_rfl) (by kernel_rfl) (by kernel_rfl) (by kernel_rfl) (by kernel_rfl) (by kernel_rfl) (by kernel_rfl) (by kernel_rfl) (by kernel_rfl) (by kernel_rfl) (by kernel_rfl) ⟨by kernel_rfl, by kernel_rfl, by kernel_rfl⟩
def anR : TI := ⟨4, 24, .struct [(0, 2), (1, 3), (2, 4), (3, 6)], [.int 0, .int 0, .bool false, .u8 0], some (.prod .int (.prod .int (.prod .bool .u8)))⟩
theorem asr : bi Try.prog 8 anR := ai (by kernel_rfl) (by kernel_rfl) (by kernel_rfl) (by kernel_rfl) (by kernel_rfl) (by kernel_rfl) (by kernel_rfl) (by kernel_rfl) (by kernel_rfl) (by kernel_rfl) (by kernel_rfl) ⟨by kernel_rfl, by kernel_rfl, by kernel_rfl⟩
def anQ : TI := ⟨1, 16, .str, [.str []], some .str⟩
theorem asq : bi Try.prog 9 anQ := ai (by kernel_rfl) (by kernel_rfl) (by kernel_rfl) (by kernel_rfl) (by kernel_rfl) (by kernel_rfl) (by kernel_rfl) (by kernel_rfl) (by kernel_rfl) (by kernel_rfl) (by kernel_rfl) ⟨by kernel_rfl, by kernel_rfl, by kernel_rfl⟩
def afF : TI := ⟨1, 16, .str, [.str []], some .str⟩
theorem ap5 : bi Try.prog 10 afF := ai (by kernel_rfl) (by kernel_rfl) (by kernel_rfl) (by kernel_rfl) (by kernel_rfl) (by kernel_rfl) (by kernel_rfl) (by kernel_rfl) (by kernel_rfl) (by kernel_rfl) (by kernel_rfl) ⟨by kernel_rfl, by kernel_rfl, by kernel_rfl⟩
def afE : TI := ⟨1, 16, .str, [.str []], some .str⟩
theorem ap4 : bi Try.prog 11 afE := ai (by kernel_rfl) (by kernel_rfl) (by kernel_rfl) (by kernel_rfl) (by kernel_rfl) (by kernel_rfl) (by kernel_rfl) (by kernel_rfl) (by kernel_rfl) (by kernel_rfl) (by kernel_rfl) ⟨by kernel_rfl, by kernel_rfl, by kernel_rfl⟩
def afD : TI := ⟨1, 8, .int .u64, [.u64 0], some .u64⟩
theorem ap3 : bi Try.prog 12 afD := ai (by kernel_rfl) (by kernel_rfl) (by kernel_rfl) (by kernel_rfl) (by kernel_rfl) (by kernel_rfl) (by kernel_rfl) (by kernel_rfl) (by kernel_rfl) (by kernel_rfl) (by kernel_rfl) ⟨by kernel_rfl, by kernel_rfl, by kernel_rfl⟩
def afC : TI := ⟨1, 8, .ptr [("Error", 108), ("RuntimeError", 109)], [.od], none⟩
theorem ap2 : bi Try.prog 15 afC := ai (by kernel_rfl) (by kernel_rfl) (by kernel_rfl) (by kernel_rfl) (by kernel_rfl) (by kernel_rfl) (by kernel_rfl) (by kernel_rfl) (by kernel_rfl) (by kernel_rfl) (by kernel_rfl) trivial
def afB : TI := ⟨1, 8, .ptr [("Error", 110), ("RuntimeError", 111)], [.od], none⟩
theorem ap1 : bi Try.prog 16 afB := ai (by kernel_rfl) (by kernel_rfl) (by kernel_rfl) (by kernel_rfl) (by kernel_rfl) (by kernel_rfl) (by kernel_rfl) (by kernel_rfl) (by kernel_rfl) (by kernel_rfl) (by kernel_rfl) trivial
def afA : TI := ⟨1, 8, .ptr [("Align", 112)], [.od], none⟩
theorem ap0 : bi Try.prog 17 afA := ai (by kernel_rfl) (by kernel_rfl) (by kernel_rfl) (by kernel_rfl) (by kernel_rfl) (by kernel_rfl) (by kernel_rfl) (by kernel_rfl) (by kernel_rfl) (by kernel_rfl) (by kernel_rfl) trivial
def afz : TI := ⟨1, 16, .iface, [.dj], none⟩
theorem apZ : bi Try.prog 20 afz := ai (by kernel_rfl) (by kernel_rfl) (by kernel_rfl) (by kernel_rfl) (by kernel_rfl) (by kernel_rfl) (by kernel_rfl) (by kernel_rfl) (by kernel_rfl) (by kernel_rfl) (by kernel_rfl) trivial
def afy : TI := ⟨1, 4, .int .i32, [.bT], none⟩
theorem apY : bi Try.prog 21 afy := ai (by kernel_rfl) (by kernel_rfl) (by kernel_rfl) (by kernel_rfl) (by kernel_rfl) (by kernel_rfl) (by kernel_rfl) (by kernel_rfl) (by kernel_rfl) (by kernel_rfl) (by kernel_rfl) trivial
def TL : TI := ⟨1, 24, .slice 25, [.emp], some (.list .elem)⟩
theorem apX : bi Try.prog 22 TL := ai (by kernel_rfl) (by kernel_rfl) (by kernel_rfl) (by kernel_rfl) (by kernel_rfl) (by kernel_rfl) (by kernel_rfl) (by kernel_rfl) (by kernel_rfl) (by kernel_rfl) (by kernel_rfl) ⟨by kernel_rfl, by kernel_rfl, by kernel_rfl⟩
def afx : TI := ⟨1, 8, .int .u64, [.u64 0], some .u64⟩
theorem apW : bi Try.prog 23 afx := ai (by kernel_rfl) (by kernel_rfl) (by kernel_rfl) (by kernel_rfl) (by kernel_rfl) (by kernel_rfl) (by kernel_rfl) (by kernel_rfl) (by kernel_rfl) (by kernel_rfl) (by kernel_rfl) ⟨by kernel_rfl, by kernel_rfl, by kernel_rfl⟩
def afw : TI := ⟨4, 32, .array 4 23, [.u64 0, .u64 0, .u64 0, .u64 0], some .elem⟩
theorem apV : bi Try.prog 24 afw := ai (by kernel_rfl) (by kernel_rfl) (by kernel_rfl) (by kernel_rfl) (by kernel_rfl) (by kernel_rfl) (by kernel_rfl) (by kernel_rfl) (by kernel_rfl) (by kernel_rfl) (by kernel_rfl) ⟨by kernel_rfl, by kernel_rfl, by kernel_rfl⟩
def Lb : TI := ⟨4, 32, .array 4 23, [.u64 0, .u64 0, .u64 0, .u64 0], some .elem⟩
theorem apU : bi Try.prog 25 Lb := ai (by kernel_rfl) (by kernel_rfl) (by kernel_rfl) (by kernel_rfl) (by kernel_rfl) (by kernel_rfl) (by kernel_rfl) (by kernel_rfl) (by kernel_rfl) (by kernel_rfl) (by kernel_rfl) ⟨by kernel_rfl, by kernel_rfl, by kernel_rfl⟩
def afv : TI := ⟨9, 72, .struct [(0, 25), (4, 25), (8, 4)], [.u64 0, .u64 0, .u64 0, .u64 0, .u64 0, .u64 0, .u64 0, .u64 0, .bool false], some (.prod .elem (.prod .elem .bool))⟩
theorem apT : bi Try.prog 26 afv := ai (by kernel_rfl) (by kernel_rfl) (by kernel_rfl) (by kernel_rfl) (by kernel_rfl) (by kernel_rfl) (by kernel_rfl) (by kernel_rfl) (by kernel_rfl) (by kernel_rfl) (by kernel_rfl) ⟨by kernel_rfl, by kernel_rfl, by kernel_rfl⟩
def afu : TI := ⟨9, 72, .struct [(0, 25), (4, 25), (8, 4)], [.u64 0, .u64 0, .u64 0, .u64 0, .u64 0, .u64 0, .u64 0, .u64 0, .bool false], some (.prod .elem (.prod .elem .bool))⟩
theorem apS : bi Try.prog 27 afu := ai (by kernel_rfl) (by kernel_rfl) (by kernel_rfl) (by kernel_rfl) (by kernel_rfl) (by kernel_rfl) (by kernel_rfl) (by kernel_rfl) (by kernel_rfl) (by kernel_rfl) (by kernel_rfl) ⟨by kernel_rfl, by kernel_rfl, by kernel_rfl⟩
def aft : TI := ⟨1, 8, .other, [.bT], none⟩
theorem apR : bi Try.prog 28 aft := ai (by kernel_rfl) (by kernel_rfl) (by kernel_rfl) (by kernel_rfl) (by kernel_rfl) (by kernel_rfl) (by kernel_rfl) (by kernel_rfl) (by kernel_rfl) (by kernel_rfl) (by kernel_rfl) trivial
def afs : TI := ⟨1, 8, .other, [.bT], none⟩
theorem apQ : bi Try.prog 29 afs := ai (by kernel_rfl) (by kernel_rfl) (by kernel_rfl) (by kernel_rfl) (by kernel_rfl) (by kernel_rfl) (by kernel_rfl) (by kernel_rfl) (by kernel_rfl) (by kernel_rfl) (by kernel_rfl) trivial
def afr : TI := ⟨1, 8, .other, [.bT], none⟩
theorem apP : bi Try.prog 30 afr := ai (by kernel_rfl) (by kernel_rfl) (by kernel_rfl) (by kernel_rfl) (by kernel_rfl) (by kernel_rfl) (by kernel_rfl) (by kernel_rfl) (by kernel_rfl) (by kernel_rfl) (by kernel_rfl) trivial
def afq : TI := ⟨2, 32, .struct [(0, 3), (1, 22)], [.int 0, .emp], some (.prod .int (.list .elem))⟩
theorem apO : bi Try.prog 31 afq := ai (by kernel_rfl) (by kernel_rfl) (by kernel_rfl) (by kernel_rfl) (by kernel_rfl) (by kernel_rfl) (by kernel_rfl) (by kernel_rfl) (by kernel_rfl) (by kernel_rfl) (by kernel_rfl) ⟨by kernel_rfl, by kernel_rfl, by kernel_rfl⟩
def afp : TI := ⟨2, 32, .struct [(0, 3), (1, 22)], [.int 0, .emp], some (.prod .int (.list .elem))⟩
theorem apN : bi Try.prog 32 afp := ai (by kernel_rfl) (by kernel_rfl) (by kernel_rfl) (by kernel_rfl) (by kernel_rfl) (by kernel_rfl) (by kernel_rfl) (by kernel_rfl) (by kernel_rfl) (by kernel_rfl) (by kernel_rfl) ⟨by kernel_rfl, by kernel_rfl, by kernel_rfl⟩
def afo : TI := ⟨1, 8, .ptr [("Bytes", 16), ("Point", 13), ("Scalar", 12), ("sigil/tape.say", 35)], [.od], none⟩
theorem apM : bi Try.prog 33 afo := ai (by kernel_rfl) (by kernel_rfl) (by kernel_rfl) (by kernel_rfl) (by kernel_rfl) (by kernel_rfl) (by kernel_rfl) (by kernel_rfl) (by kernel_rfl) (by kernel_rfl) (by kernel_rfl) trivial
def afn : TI := ⟨1, 8, .int .i64, [.int 0], some .int⟩
theorem apL : bi Try.prog 34 afn := ai (by kernel_rfl) (by kernel_rfl) (by kernel_rfl) (by kernel_rfl) (by kernel_rfl) (by kernel_rfl) (by kernel_rfl) (by kernel_rfl) (by kernel_rfl) (by kernel_rfl) (by kernel_rfl) ⟨by kernel_rfl, by kernel_rfl, by kernel_rfl⟩
def afm : TI := ⟨1, 8, .other, [.bT], none⟩
theorem apK : bi Try.prog 36 afm := ai (by kernel_rfl) (by kernel_rfl) (by kernel_rfl) (by kernel_rfl) (by kernel_rfl) (by kernel_rfl) (by kernel_rfl) (by kernel_rfl) (by kernel_rfl) (by kernel_rfl) (by kernel_rfl) trivial
def afl : TI := ⟨1, 8, .other, [.bT], none⟩
theorem apJ : bi Try.prog 37 afl := ai (by kernel_rfl) (by kernel_rfl) (by kernel_rfl) (by kernel_rfl) (by kernel_rfl) (by kernel_rfl) (by kernel_rfl) (by kernel_rfl) (by kernel_rfl) (by kernel_rfl) (by kernel_rfl) trivial
def afk : TI := ⟨1, 8, .other, [.bT], none⟩
theorem apI : bi Try.prog 38 afk := ai (by kernel_rfl) (by kernel_rfl) (by kernel_rfl) (by kernel_rfl) (by kernel_rfl) (by kernel_rfl) (by kernel_rfl) (by kernel_rfl) (by kernel_rfl) (by kernel_rfl) (by kernel_rfl) trivial
def afj : TI := ⟨1, 16, .iface, [.dj], none⟩
theorem apH : bi Try.prog 39 afj := ai (by kernel_rfl) (by kernel_rfl) (by kernel_rfl) (by kernel_rfl) (by kernel_rfl) (by kernel_rfl) (by kernel_rfl) (by kernel_rfl) (by kernel_rfl) (by kernel_rfl) (by kernel_rfl) trivial
def afi : TI := ⟨1, 16, .iface, [.dj], none⟩
theorem apG : bi Try.prog 40 afi := ai (by kernel_rfl) (by kernel_rfl) (by kernel_rfl) (by kernel_rfl) (by kernel_rfl) (by kernel_rfl) (by kernel_rfl) (by kernel_rfl) (by kernel_rfl) (by kernel_rfl) (by kernel_rfl) trivial
def afh : TI := ⟨2, 24, .struct [(0, 3), (1, 40)], [.int 0, .dj], none⟩
theorem apF : bi Try.prog 41 afh := ai (by kernel_rfl) (by kernel_rfl) (by kernel_rfl) (by kernel_rfl) (by kernel_rfl) (by kernel_rfl) (by kernel_rfl) (by kernel_rfl) (by kernel_rfl) (by kernel_rfl) (by kernel_rfl) trivial
def afg : TI := ⟨2, 24, .struct [(0, 3), (1, 40)], [.int 0, .dj], none⟩
theorem apE : bi Try.prog 42 afg := ai (by kernel_rfl) (by kernel_rfl) (by kernel_rfl) (by kernel_rfl) (by kernel_rfl) (by kernel_rfl) (by kernel_rfl) (by kernel_rfl) (by kernel_rfl) (by kernel_rfl) (by kernel_rfl) trivial
def aff : TI := ⟨1, 24, .slice 5, [.emp], some (.list .u8)⟩
theorem apD : bi Try.prog 43 aff := ai (by kernel_rfl) (by kernel_rfl) (by kernel_rfl) (by kernel_rfl) (by kernel_rfl) (by kernel_rfl) (by kernel_rfl) (by kernel_rfl) (by kernel_rfl) (by kernel_rfl) (by kernel_rfl) ⟨by kernel_rfl, by kernel_rfl, by kernel_rfl⟩
def afe : TI := ⟨3, 48, .struct [(0, 42), (2, 43)], [.int 0, .dj, .emp], none⟩
theorem apC : bi Try.prog 44 afe := ai (by kernel_rfl) (by kernel_rfl) (by kernel_rfl) (by kernel_rfl) (by kernel_rfl) (by kernel_rfl) (by kernel_rfl) (by kernel_rfl) (by kernel_rfl) (by kernel_rfl) (by kernel_rfl) trivial
def afd : TI := ⟨3, 48, .struct [(0, 42), (2, 43)], [.int 0, .dj, .emp], none⟩
theorem apB : bi Try.prog 45 afd := ai (by kernel_rfl) (by kernel_rfl) (by kernel_rfl) (by kernel_rfl) (by kernel_rfl) (by kernel_rfl) (by kernel_rfl) (by kernel_rfl) (by kernel_rfl) (by kernel_rfl) (by kernel_rfl) trivial
def afc : TI := ⟨1, 8, .other, [.bT], none⟩
theorem apA : bi Try.prog 46 afc := ai (by kernel_rfl) (by kernel_rfl) (by kernel_rfl) (by kernel_rfl) (by kernel_rfl) (by kernel_rfl) (by kernel_rfl) (by kernel_rfl) (by kernel_rfl) (by kernel_rfl) (by kernel_rfl) trivial
def afb : TI := ⟨1, 8, .other, [.bT], none⟩
theorem apz : bi Try.prog 48 afb := ai (by kernel_rfl) (by kernel_rfl) (by kernel_rfl) (by kernel_rfl) (by kernel_rfl) (by kernel_rfl) (by kernel_rfl) (by kernel_rfl) (by kernel_rfl) (by kernel_rfl) (by kernel_rfl) trivial
def afa : TI := ⟨1, 8, .other, [.bT], none⟩
theorem apy : bi Try.prog 49 afa := ai (by kernel_rfl) (by kernel_rfl) (by kernel_rfl) (by kernel_rfl) (by kernel_rfl) (by kernel_rfl) (by kernel_rfl) (by kernel_rfl) (by kernel_rfl) (by kernel_rfl) (by kernel_rfl) trivial
def ae9 : TI := ⟨1, 8, .other, [.bT], none⟩
theorem apx : bi Try.prog 50 ae9 := ai (by kernel_rfl) (by kernel_rfl) (by kernel_rfl) (by kernel_rfl) (by kernel_rfl) (by kernel_rfl) (by kernel_rfl) (by kernel_rfl) (by kernel_rfl) (by kernel_rfl) (by kernel_rfl) trivial
def ae8 : TI := ⟨1, 8, .other, [.bT], none⟩
theorem apw : bi Try.prog 51 ae8 := ai (by kernel_rfl) (by kernel_rfl) (by kernel_rfl) (by kernel_rfl) (by kernel_rfl) (by kernel_rfl) (by kernel_rfl) (by kernel_rfl) (by kernel_rfl) (by kernel_rfl) (by kernel_rfl) trivial
def ae7 : TI := ⟨1, 8, .other, [.bT], none⟩
theorem apv : bi Try.prog 52 ae7 := ai (by kernel_rfl) (by kernel_rfl) (by kernel_rfl) (by kernel_rfl) (by kernel_rfl) (by kernel_rfl) (by kernel_rfl) (by kernel_rfl) (by kernel_rfl) (by kernel_rfl) (by kernel_rfl) trivial
def ae6 : TI := ⟨1, 24, .slice 60, [.emp], some (.list (.prod .int (.prod .elem (.prod .elem (.prod .elem .bool)))))⟩
theorem apu : bi Try.prog 53 ae6 := ai (by kernel_rfl) (by kernel_rfl) (by kernel_rfl) (by kernel_rfl) (by kernel_rfl) (by kernel_rfl) (by kernel_rfl) (by kernel_rfl) (by kernel_rfl) (by kernel_rfl) (by kernel_rfl) ⟨by kernel_rfl, by kernel_rfl, by kernel_rfl⟩
def ae5 : TI := ⟨6, 96, .struct [(0, 3), (1, 32), (3, 43), (4, 3), (5, 43)], [.int 0, .int 0, .emp, .emp, .int 0, .emp], some (.prod .int (.prod (.prod .int (.list .elem)) (.prod (.list .u8) (.prod .int (.list .u8)))))⟩
theorem apt : bi Try.prog 54 ae5 := ai (by kernel_rfl) (by kernel_rfl) (by kernel_rfl) (by kernel_rfl) (by kernel_rfl) (by kernel_rfl) (by kernel_rfl) (by kernel_rfl) (by kernel_rfl) (by kernel_rfl) (by kernel_rfl) ⟨by kernel_rfl, by kernel_rfl, by kernel_rfl⟩
def ae4 : TI := ⟨6, 96, .struct [(0, 3), (1, 32), (3, 43), (4, 3), (5, 43)], [.int 0, .int 0, .emp, .emp, .int 0, .emp], some (.prod .int (.prod (.prod .int (.list .elem)) (.prod (.list .u8) (.prod .int (.list .u8)))))⟩
theorem aps : bi Try.prog 55 ae4 := ai (by kernel_rfl) (by kernel_rfl) (by kernel_rfl) (by kernel_rfl) (by kernel_rfl) (by kernel_rfl) (by kernel_rfl) (by kernel_rfl) (by kernel_rfl) (by kernel_rfl) (by kernel_rfl) ⟨by kernel_rfl, by kernel_rfl, by kernel_rfl⟩
def ae3 : TI := ⟨1, 8, .other, [.bT], none⟩
theorem apr : bi Try.prog 57 ae3 := ai (by kernel_rfl) (by kernel_rfl) (by kernel_rfl) (by kernel_rfl) (by kernel_rfl) (by kernel_rfl) (by kernel_rfl) (by kernel_rfl) (by kernel_rfl) (by kernel_rfl) (by kernel_rfl) trivial
def ae2 : TI := ⟨1, 8, .other, [.bT], none⟩
theorem apq : bi Try.prog 58 ae2 := ai (by kernel_rfl) (by kernel_rfl) (by kernel_rfl) (by kernel_rfl) (by kernel_rfl) (by kernel_rfl) (by kernel_rfl) (by kernel_rfl) (by kernel_rfl) (by kernel_rfl) (by kernel_rfl) trivial
def ae1 : TI := ⟨14, 112, .struct [(0, 3), (1, 25), (5, 27)], [.int 0, .u64 0, .u64 0, .u64 0, .u64 0, .u64 0, .u64 0, .u64 0, .u64 0, .u64 0, .u64 0, .u64 0, .u64 0, .bool false], some (.prod .int (.prod .elem (.prod .elem (.prod .elem .bool))))⟩
theorem app : bi Try.prog 59 ae1 := ai (by kernel_rfl) (by kernel_rfl) (by kernel_rfl) (by kernel_rfl) (by kernel_rfl) (by kernel_rfl) (by kernel_rfl) (by kernel_rfl) (by kernel_rfl) (by kernel_rfl) (by kernel_rfl) ⟨by kernel_rfl, by kernel_rfl, by kernel_rfl⟩
def ae0 : TI := ⟨14, 112, .struct [(0, 3), (1, 25), (5, 27)], [.int 0, .u64 0, .u64 0, .u64 0, .u64 0, .u64 0, .u64 0, .u64 0, .u64 0, .u64 0, .u64 0, .u64 0, .u64 0, .bool false], some (.prod .int (.prod .elem (.prod .elem (.prod .elem .bool))))⟩
theorem apo : bi Try.prog 60 ae0 := ai (by kernel_rfl) (by kernel_rfl) (by kernel_rfl) (by kernel_rfl) (by kernel_rfl) (by kernel_rfl) (by kernel_rfl) (by kernel_rfl) (by kernel_rfl) (by kernel_rfl) (by kernel_rfl) ⟨by kernel_rfl, by kernel_rfl, by kernel_rfl⟩
def aeZ : TI := ⟨1, 8, .other, [.bT], none⟩
theorem apn : bi Try.prog 61 aeZ := ai (by kernel_rfl) (by kernel_rfl) (by kernel_rfl) (by kernel_rfl) (by kernel_rfl) (by kernel_rfl) (by kernel_rfl) (by kernel_rfl) (by kernel_rfl) (by kernel_rfl) (by kernel_rfl) trivial
def aeY : TI := ⟨1, 8, .other, [.bT], none⟩
theorem apm : bi Try.prog 62 aeY := ai (by kernel_rfl) (by kernel_rfl) (by kernel_rfl) (by kernel_rfl) (by kernel_rfl) (by kernel_rfl) (by kernel_rfl) (by kernel_rfl) (by kernel_rfl) (by kernel_rfl) (by kernel_rfl) trivial
def aeX : TI := ⟨1, 8, .other, [.bT], none⟩
theorem apl : bi Try.prog 64 aeX := ai (by kernel_rfl) (by kernel_rfl) (by kernel_rfl) (by kernel_rfl) (by kernel_rfl) (by kernel_rfl) (by kernel_rfl) (by kernel_rfl) (by kernel_rfl) (by kernel_rfl) (by kernel_rfl) trivial
def aeW : TI := ⟨1, 8, .other, [.bT], none⟩
theorem apk : bi Try.prog 65 aeW := ai (by kernel_rfl) (by kernel_rfl) (by kernel_rfl) (by kernel_rfl) (by kernel_rfl) (by kernel_rfl) (by kernel_rfl) (by kernel_rfl) (by kernel_rfl) (by kernel_rfl) (by kernel_rfl) trivial
def aeV : TI := ⟨1, 8, .other, [.bT], none⟩
theorem apj : bi Try.prog 66 aeV := ai (by kernel_rfl) (by kernel_rfl) (by kernel_rfl) (by kernel_rfl) (by kernel_rfl) (by kernel_rfl) (by kernel_rfl) (by kernel_rfl) (by kernel_rfl) (by kernel_rfl) (by kernel_rfl) trivial
def aeU : TI := ⟨1, 8, .ptr [("Point", 26), ("Rest", 29), ("Scalar", 27)], [.od], none⟩
theorem api : bi Try.prog 67 aeU := ai (by kernel_rfl) (by kernel_rfl) (by kernel_rfl) (by kernel_rfl) (by kernel_rfl) (by kernel_rfl) (by kernel_rfl) (by kernel_rfl) (by kernel_rfl) (by kernel_rfl) (by kernel_rfl) trivial
def aeT : TI := ⟨1, 8, .other, [.bT], none⟩
theorem aph : bi Try.prog 69 aeT := ai (by kernel_rfl) (by kernel_rfl) (by kernel_rfl) (by kernel_rfl) (by kernel_rfl) (by kernel_rfl) (by kernel_rfl) (by kernel_rfl) (by kernel_rfl) (by kernel_rfl) (by kernel_rfl) trivial
def aeS : TI := ⟨3, 48, .struct [(0, 42), (2, 43)], [.int 0, .dj, .emp], none⟩
theorem apg : bi Try.prog 70 aeS := ai (by kernel_rfl) (by kernel_rfl) (by kernel_rfl) (by kernel_rfl) (by kernel_rfl) (by kernel_rfl) (by kernel_rfl) (by kernel_rfl) (by kernel_rfl) (by kernel_rfl) (by kernel_rfl) trivial
def aeR : TI := ⟨3, 48, .struct [(0, 42), (2, 43)], [.int 0, .dj, .emp], none⟩
theorem apf : bi Try.prog 71 aeR := ai (by kernel_rfl) (by kernel_rfl) (by kernel_rfl) (by kernel_rfl) (by kernel_rfl) (by kernel_rfl) (by kernel_rfl) (by kernel_rfl) (by kernel_rfl) (by kernel_rfl) (by kernel_rfl) trivial
def aeQ : TI := ⟨1, 8, .other, [.bT], none⟩
theorem ape : bi Try.prog 73 aeQ := ai (by kernel_rfl) (by kernel_rfl) (by kernel_rfl) (by kernel_rfl) (by kernel_rfl) (by kernel_rfl) (by kernel_rfl) (by kernel_rfl) (by kernel_rfl) (by kernel_rfl) (by kernel_rfl) trivial
def aeP : TI := ⟨1, 8, .other, [.bT], none⟩
theorem apd : bi Try.prog 74 aeP := ai (by kernel_rfl) (by kernel_rfl) (by kernel_rfl) (by kernel_rfl) (by kernel_rfl) (by kernel_rfl) (by kernel_rfl) (by kernel_rfl) (by kernel_rfl) (by kernel_rfl) (by kernel_rfl) trivial
def aeO : TI := ⟨1, 8, .other, [.bT], none⟩
theorem apc : bi Try.prog 75 aeO := ai (by kernel_rfl) (by kernel_rfl) (by kernel_rfl) (by kernel_rfl) (by kernel_rfl) (by kernel_rfl) (by kernel_rfl) (by kernel_rfl) (by kernel_rfl) (by kernel_rfl) (by kernel_rfl) trivial
def aeN : TI := ⟨1, 8, .other, [.bT], none⟩
theorem apb : bi Try.prog 77 aeN := ai (by kernel_rfl) (by kernel_rfl) (by kernel_rfl) (by kernel_rfl) (by kernel_rfl) (by kernel_rfl) (by kernel_rfl) (by kernel_rfl) (by kernel_rfl) (by kernel_rfl) (by kernel_rfl) trivial
def aeM : TI := ⟨1, 8, .other, [.bT], none⟩
theorem apa : bi Try.prog 78 aeM := ai (by kernel_rfl) (by kernel_rfl) (by kernel_rfl) (by kernel_rfl) (by kernel_rfl) (by kernel_rfl) (by kernel_rfl) (by kernel_rfl) (by kernel_rfl) (by kernel_rfl) (by kernel_rfl) trivial
def aeL : TI := ⟨1, 8, .ptr [("Challenge", 14), ("Curve", 24), ("Hear", 11)], [.od], none⟩
theorem ao9 : bi Try.prog 79 aeL := ai (by kernel_rfl) (by kernel_rfl) (by kernel_rfl) (by kernel_rfl) (by kernel_rfl) (by kernel_rfl) (by kernel_rfl) (by kernel_rfl) (by kernel_rfl) (by kernel_rfl) (by kernel_rfl) trivial
def aeK : TI := ⟨1, 8, .other, [.bT], none⟩
theorem ao8 : bi Try.prog 80 aeK := ai (by kernel_rfl) (by kernel_rfl) (by kernel_rfl) (by kernel_rfl) (by kernel_rfl) (by kernel_rfl) (by kernel_rfl) (by kernel_rfl) (by kernel_rfl) (by kernel_rfl) (by kernel_rfl) trivial
def aeJ : TI := ⟨1, 8, .other, [.bT], none⟩
theorem ao7 : bi Try.prog 81 aeJ := ai (by kernel_rfl) (by kernel_rfl) (by kernel_rfl) (by kernel_rfl) (by kernel_rfl) (by kernel_rfl) (by kernel_rfl) (by kernel_rfl) (by kernel_rfl) (by kernel_rfl) (by kernel_rfl) trivial
def aeI : TI := ⟨1, 8, .other, [.bT], none⟩
theorem ao6 : bi Try.prog 82 aeI := ai (by kernel_rfl) (by kernel_rfl) (by kernel_rfl) (by kernel_rfl) (by kernel_rfl) (by kernel_rfl) (by kernel_rfl) (by kernel_rfl) (by kernel_rfl) (by kernel_rfl) (by kernel_rfl) trivial
def aeH : TI := ⟨1, 8, .other, [.bT], none⟩
theorem ao5 : bi Try.prog 83 aeH := ai (by kernel_rfl) (by kernel_rfl) (by kernel_rfl) (by kernel_rfl) (by kernel_rfl) (by kernel_rfl) (by kernel_rfl) (by kernel_rfl) (by kernel_rfl) (by kernel_rfl) (by kernel_rfl) trivial
def aeG : TI := ⟨1, 8, .other, [.bT], none⟩
theorem ao4 : bi Try.prog 84 aeG := ai (by kernel_rfl) (by kernel_rfl) (by kernel_rfl) (by kernel_rfl) (by kernel_rfl) (by kernel_rfl) (by kernel_rfl) (by kernel_rfl) (by kernel_rfl) (by kernel_rfl) (by kernel_rfl) trivial
def aeF : TI := ⟨1, 8, .int .u64, [.u64 0], some .u64⟩
theorem ao3 : bi Try.prog 85 aeF := ai (by kernel_rfl) (by kernel_rfl) (by kernel_rfl) (by kernel_rfl) (by kernel_rfl) (by kernel_rfl) (by kernel_rfl) (by kernel_rfl) (by kernel_rfl) (by kernel_rfl) (by kernel_rfl) ⟨by kernel_rfl, by kernel_rfl, by kernel_rfl⟩
def aeE : TI := ⟨1, 8, .other, [.bT], none⟩
theorem ao2 : bi Try.prog 86 aeE := ai (by kernel_rfl) (by kernel_rfl) (by kernel_rfl) (by kernel_rfl) (by kernel_rfl) (by kernel_rfl) (by kernel_rfl) (by kernel_rfl) (by kernel_rfl) (by kernel_rfl) (by kernel_rfl) trivial
def aeD : TI := ⟨1, 8, .other, [.bT], none⟩
theorem ao1 : bi Try.prog 87 aeD := ai (by kernel_rfl) (by kernel_rfl) (by kernel_rfl) (by kernel_rfl) (by kernel_rfl) (by kernel_rfl) (by kernel_rfl) (by kernel_rfl) (by kernel_rfl) (by kernel_rfl) (by kernel_rfl) trivial
def aeC : TI := ⟨1, 8, .other, [.bT], none⟩
theorem ao0 : bi Try.prog 88 aeC := ai (by kernel_rfl) (by kernel_rfl) (by kernel_rfl) (by kernel_rfl) (by kernel_rfl) (by kernel_rfl) (by kernel_rfl) (by kernel_rfl) (by kernel_rfl) (by kernel_rfl) (by kernel_rfl) trivial
def aeB : TI := ⟨1, 8, .other, [.bT], none⟩
theorem aoZ : bi Try.prog 89 aeB := ai (by kernel_rfl) (by kernel_rfl) (by kernel_rfl) (by kernel_rfl) (by kernel_rfl) (by kernel_rfl) (by kernel_rfl) (by kernel_rfl) (by kernel_rfl) (by kernel_rfl) (by kernel_rfl) trivial
def aeA : TI := ⟨1, 8, .other, [.bT], none⟩
theorem aoY : bi Try.prog 90 aeA := ai (by kernel_rfl) (by kernel_rfl) (by kernel_rfl) (by kernel_rfl) (by kernel_rfl) (by kernel_rfl) (by kernel_rfl) (by kernel_rfl) (by kernel_rfl) (by kernel_rfl) (by kernel_rfl) trivial
def aez : TI := ⟨1, 8, .other, [.bT], none⟩
theorem aoX : bi Try.prog 92 aez := ai (by kernel_rfl) (by kernel_rfl) (by kernel_rfl) (by kernel_rfl) (by kernel_rfl) (by kernel_rfl) (by kernel_rfl) (by kernel_rfl) (by kernel_rfl) (by kernel_rfl) (by kernel_rfl) trivial
def aey : TI := ⟨1, 8, .other, [.bT], none⟩
theorem aoW : bi Try.prog 93 aey := ai (by kernel_rfl) (by kernel_rfl) (by kernel_rfl) (by kernel_rfl) (by kernel_rfl) (by kernel_rfl) (by kernel_rfl) (by kernel_rfl) (by kernel_rfl) (by kernel_rfl) (by kernel_rfl) trivial
def aex : TI := ⟨1, 8, .other, [.bT], none⟩
theorem aoV : bi Try.prog 94 aex := ai (by kernel_rfl) (by kernel_rfl) (by kernel_rfl) (by kernel_rfl) (by kernel_rfl) (by kernel_rfl) (by kernel_rfl) (by kernel_rfl) (by kernel_rfl) (by kernel_rfl) (by kernel_rfl) trivial
def aew : TI := ⟨1, 8, .other, [.bT], none⟩
theorem aoU : bi Try.prog 95 aew := ai (by kernel_rfl) (by kernel_rfl) (by kernel_rfl) (by kernel_rfl) (by kernel_rfl) (by kernel_rfl) (by kernel_rfl) (by kernel_rfl) (by kernel_rfl) (by kernel_rfl) (by kernel_rfl) trivial
def aev : TI := ⟨1, 8, .other, [.bT], none⟩
theorem aoT : bi Try.prog 96 aev := ai (by kernel_rfl) (by kernel_rfl) (by kernel_rfl) (by kernel_rfl) (by kernel_rfl) (by kernel_rfl) (by kernel_rfl) (by kernel_rfl) (by kernel_rfl) (by kernel_rfl) (by kernel_rfl) trivial
def aeu : TI := ⟨1, 8, .other, [.bT], none⟩
theorem aoS : bi Try.prog 97 aeu := ai (by kernel_rfl) (by kernel_rfl) (by kernel_rfl) (by kernel_rfl) (by kernel_rfl) (by kernel_rfl) (by kernel_rfl) (by kernel_rfl) (by kernel_rfl) (by kernel_rfl) (by kernel_rfl) trivial
def aet : TI := ⟨1, 8, .ptr [("sigil/tape.next", 116), ("sigil/tape.take", 117)], [.od], none⟩
theorem aoR : bi Try.prog 98 aet := ai (by kernel_rfl) (by kernel_rfl) (by kernel_rfl) (by kernel_rfl) (by kernel_rfl) (by kernel_rfl) (by kernel_rfl) (by kernel_rfl) (by kernel_rfl) (by kernel_rfl) (by kernel_rfl) trivial
def aes : TI := ⟨1, 24, .struct [(0, 22)], [.emp], some (.list .elem)⟩
theorem aoQ : bi Try.prog 99 aes := ai (by kernel_rfl) (by kernel_rfl) (by kernel_rfl) (by kernel_rfl) (by kernel_rfl) (by kernel_rfl) (by kernel_rfl) (by kernel_rfl) (by kernel_rfl) (by kernel_rfl) (by kernel_rfl) ⟨by kernel_rfl, by kernel_rfl, by kernel_rfl⟩
def YC : TI := ⟨1, 24, .struct [(0, 22)], [.emp], some (.list .elem)⟩
theorem alw : bi Try.prog 100 YC := ai (by kernel_rfl) (by kernel_rfl) (by kernel_rfl) (by kernel_rfl) (by kernel_rfl) (by kernel_rfl) (by kernel_rfl) (by kernel_rfl) (by kernel_rfl) (by kernel_rfl) (by kernel_rfl) ⟨by kernel_rfl, by kernel_rfl, by kernel_rfl⟩
def YB : TI := ⟨2, 32, .struct [(0, 3), (1, 100)], [.int 0, .emp], some (.prod .int (.list .elem))⟩
theorem alv : bi Try.prog 101 YB := ai (by kernel_rfl) (by kernel_rfl) (by kernel_rfl) (by kernel_rfl) (by kernel_rfl) (by kernel_rfl) (by kernel_rfl) (by kernel_rfl) (by kernel_rfl) (by kernel_rfl) (by kernel_rfl) ⟨by kernel_rfl, by kernel_rfl, by kernel_rfl⟩
def YA : TI := ⟨2, 32, .struct [(0, 3), (1, 100)], [.int 0, .emp], some (.prod .int (.list .elem))⟩
theorem alu : bi Try.prog 102 YA := ai (by kernel_rfl) (by kernel_rfl) (by kernel_rfl) (by kernel_rfl) (by kernel_rfl) (by kernel_rfl) (by kernel_rfl) (by kernel_rfl) (by kernel_rfl) (by kernel_rfl) (by kernel_rfl) ⟨by kernel_rfl, by kernel_rfl, by kernel_rfl⟩
def Yz : TI := ⟨1, 8, .ptr [("Sum", 119), ("Write", 124)], [.od], none⟩
theorem alt : bi Try.prog 103 Yz := ai (by kernel_rfl) (by kernel_rfl) (by kernel_rfl) (by kernel_rfl) (by kernel_rfl) (by kernel_rfl) (by kernel_rfl) (by kernel_rfl) (by kernel_rfl) (by kernel_rfl) (by kernel_rfl) trivial
def Yy : TI := ⟨1, 8, .other, [.bT], none⟩
theorem als : bi Try.prog 105 Yy := ai (by kernel_rfl) (by kernel_rfl) (by kernel_rfl) (by kernel_rfl) (by kernel_rfl) (by kernel_rfl) (by kernel_rfl) (by kernel_rfl) (by kernel_rfl) (by kernel_rfl) (by kernel_rfl) trivial
def Yx : TI := ⟨1, 8, .ptr [("sigil/tape.next", 120), ("sigil/tape.take", 121)], [.od], none⟩
theorem alr : bi Try.prog 106 Yx := ai (by kernel_rfl) (by kernel_rfl) (by kernel_rfl) (by kernel_rfl) (by kernel_rfl) (by kernel_rfl) (by kernel_rfl) (by kernel_rfl) (by kernel_rfl) (by kernel_rfl) (by kernel_rfl) trivial
def Yw : TI := ⟨2, 16, .struct [(0, 3), (1, 103)], [.int 0, .od], none⟩
theorem alq : bi Try.prog 107 Yw := ai (by kernel_rfl) (by kernel_rfl) (by kernel_rfl) (by kernel_rfl) (by kernel_rfl) (by kernel_rfl) (by kernel_rfl) (by kernel_rfl) (by kernel_rfl) (by kernel_rfl) (by kernel_rfl) trivial
def Yv : TI := ⟨2, 16, .struct [(0, 3), (1, 103)], [.int 0, .od], none⟩
theorem alp : bi Try.prog 108 Yv := ai (by kernel_rfl) (by kernel_rfl) (by kernel_rfl) (by kernel_rfl) (by kernel_rfl) (by kernel_rfl) (by kernel_rfl) (by kernel_rfl) (by kernel_rfl) (by kernel_rfl) (by kernel_rfl) trivial
def Yu : TI := ⟨11, 88, .struct [(0, 25), (4, 3), (5, 23), (6, 23), (7, 25)], [.u64 0, .u64 0, .u64 0, .u64 0, .int 0, .u64 0, .u64 0, .u64 0, .u64 0, .u64 0, .u64 0], some (.prod .elem (.prod .int (.prod .u64 (.prod .u64 .elem))))⟩
theorem alo : bi Try.prog 109 Yu := ai (by kernel_rfl) (by kernel_rfl) (by kernel_rfl) (by kernel_rfl) (by kernel_rfl) (by kernel_rfl) (by kernel_rfl) (by kernel_rfl) (by kernel_rfl) (by kernel_rfl) (by kernel_rfl) ⟨by kernel_rfl, by kernel_rfl, by kernel_rfl⟩
def Yt : TI := ⟨11, 88, .struct [(0, 25), (4, 3), (5, 23), (6, 23), (7, 25)], [.u64 0, .u64 0, .u64 0, .u64 0, .int 0, .u64 0, .u64 0, .u64 0, .u64 0, .u64 0, .u64 0], some (.prod .elem (.prod .int (.prod .u64 (.prod .u64 .elem))))⟩
theorem aln : bi Try.prog 110 Yt := ai (by kernel_rfl) (by kernel_rfl) (by kernel_rfl) (by kernel_rfl) (by kernel_rfl) (by kernel_rfl) (by kernel_rfl) (by kernel_rfl) (by kernel_rfl) (by kernel_rfl) (by kernel_rfl) ⟨by kernel_rfl, by kernel_rfl, by kernel_rfl⟩
def Ys : TI := ⟨1, 8, .other, [.bT], none⟩
theorem alm : bi Try.prog 112 Ys := ai (by kernel_rfl) (by kernel_rfl) (by kernel_rfl) (by kernel_rfl) (by kernel_rfl) (by kernel_rfl) (by kernel_rfl) (by kernel_rfl) (by kernel_rfl) (by kernel_rfl) (by kernel_rfl) trivial
def Yr : TI := ⟨1, 8, .other, [.bT], none⟩
theorem alk : bi Try.prog 113 Yr := ai (by kernel_rfl) (by kernel_rfl) (by kernel_rfl) (by kernel_rfl) (by kernel_rfl) (by kernel_rfl) (by kernel_rfl) (by kernel_rfl) (by kernel_rfl) (by kernel_rfl) (by kernel_rfl) trivial
def Yq : TI := ⟨1, 8, .other, [.bT], none⟩
theorem alj : bi Try.prog 115 Yq := ai (by kernel_rfl) (by kernel_rfl) (by kernel_rfl) (by kernel_rfl) (by kernel_rfl) (by kernel_rfl) (by kernel_rfl) (by kernel_rfl) (by kernel_rfl) (by kernel_rfl) (by kernel_rfl) trivial
def Yp : TI := ⟨8, 64, .array 8 23, [.u64 0, .u64 0, .u64 0, .u64 0, .u64 0, .u64 0, .u64 0, .u64 0], some (.arr 8 .u64)⟩
theorem ali : bi Try.prog 116 Yp := ai (by kernel_rfl) (by kernel_rfl) (by kernel_rfl) (by kernel_rfl) (by kernel_rfl) (by kernel_rfl) (by kernel_rfl) (by kernel_rfl) (by kernel_rfl) (by kernel_rfl) (by kernel_rfl) ⟨by kernel_rfl, by kernel_rfl, by kernel_rfl⟩
def Yo : TI := ⟨1, 8, .other, [.bT], none⟩
theorem alh : bi Try.prog 117 Yo := ai (by kernel_rfl) (by kernel_rfl) (by kernel_rfl) (by kernel_rfl) (by kernel_rfl) (by kernel_rfl) (by kernel_rfl) (by kernel_rfl) (by kernel_rfl) (by kernel_rfl) (by kernel_rfl) trivial
def Yn : TI := ⟨1, 8, .other, [.bT], none⟩
theorem alg : bi Try.prog 118 Yn := ai (by kernel_rfl) (by kernel_rfl) (by kernel_rfl) (by kernel_rfl) (by kernel_rfl) (by kernel_rfl) (by kernel_rfl) (by kernel_rfl) (by kernel_rfl) (by kernel_rfl) (by kernel_rfl) trivial
def Ym : TI := ⟨1, 8, .other, [.bT], none⟩
theorem alf : bi Try.prog 119 Ym := ai (by kernel_rfl) (by kernel_rfl) (by kernel_rfl) (by kernel_rfl) (by kernel_rfl) (by kernel_rfl) (by kernel_rfl) (by kernel_rfl) (by kernel_rfl) (by kernel_rfl) (by kernel_rfl) trivial
def Yl : TI := ⟨1, 8, .other, [.bT], none⟩
theorem ale : bi Try.prog 120 Yl := ai (by kernel_rfl) (by kernel_rfl) (by kernel_rfl) (by kernel_rfl) (by kernel_rfl) (by kernel_rfl) (by kernel_rfl) (by kernel_rfl) (by kernel_rfl) (by kernel_rfl) (by kernel_rfl) trivial
def Yk : TI := ⟨1, 8, .other, [.bT], none⟩
theorem ald : bi Try.prog 121 Yk := ai (by kernel_rfl) (by kernel_rfl) (by kernel_rfl) (by kernel_rfl) (by kernel_rfl) (by kernel_rfl) (by kernel_rfl) (by kernel_rfl) (by kernel_rfl) (by kernel_rfl) (by kernel_rfl) trivial
def Yj : TI := ⟨1, 8, .other, [.bT], none⟩
theorem alc : bi Try.prog 122 Yj := ai (by kernel_rfl) (by kernel_rfl) (by kernel_rfl) (by kernel_rfl) (by kernel_rfl) (by kernel_rfl) (by kernel_rfl) (by kernel_rfl) (by kernel_rfl) (by kernel_rfl) (by kernel_rfl) trivial
def Yi : TI := ⟨11, 104, .struct [(0, 3), (1, 116), (9, 43), (10, 23)], [.int 0, .u64 0, .u64 0, .u64 0, .u64 0, .u64 0, .u64 0, .u64 0, .u64 0, .emp, .u64 0], some (.prod .int (.prod (.arr 8 .u64) (.prod (.list .u8) .u64)))⟩
theorem alb : bi Try.prog 123 Yi := ai (by kernel_rfl) (by kernel_rfl) (by kernel_rfl) (by kernel_rfl) (by kernel_rfl) (by kernel_rfl) (by kernel_rfl) (by kernel_rfl) (by kernel_rfl) (by kernel_rfl) (by kernel_rfl) ⟨by kernel_rfl, by kernel_rfl, by kernel_rfl⟩
def Yh : TI := ⟨11, 104, .struct [(0, 3), (1, 116), (9, 43), (10, 23)], [.int 0, .u64 0, .u64 0, .u64 0, .u64 0, .u64 0, .u64 0, .u64 0, .u64 0, .emp, .u64 0], some (.prod .int (.prod (.arr 8 .u64) (.prod (.list .u8) .u64)))⟩
theorem ala : bi Try.prog 124 Yh := ai (by kernel_rfl) (by kernel_rfl) (by kernel_rfl) (by kernel_rfl) (by kernel_rfl) (by kernel_rfl) (by kernel_rfl) (by kernel_rfl) (by kernel_rfl) (by kernel_rfl) (by kernel_rfl) ⟨by kernel_rfl, by kernel_rfl, by kernel_rfl⟩
def Yg : TI := ⟨16, 16, .array 16 5, List.replicate 16 (.u8 0), some (.arr 16 .u8)⟩
theorem ak9 : bi Try.prog 125 Yg := ai (by kernel_rfl) (by kernel_rfl) (by kernel_rfl) (by kernel_rfl) (by kernel_rfl) (by kernel_rfl) (by kernel_rfl) (by kernel_rfl) (by kernel_rfl) (by kernel_rfl) (by kernel_rfl) ⟨by kernel_rfl, by kernel_rfl, by kernel_rfl⟩
def Yf : TI := ⟨1, 8, .other, [.bT], none⟩
theorem ak8 : bi Try.prog 126 Yf := ai (by kernel_rfl) (by kernel_rfl) (by kernel_rfl) (by kernel_rfl) (by kernel_rfl) (by kernel_rfl) (by kernel_rfl) (by kernel_rfl) (by kernel_rfl) (by kernel_rfl) (by kernel_rfl) trivial
def Ye : TI := ⟨1, 8, .other, [.bT], none⟩
theorem ak7 : bi Try.prog 128 Ye := ai (by kernel_rfl) (by kernel_rfl) (by kernel_rfl) (by kernel_rfl) (by kernel_rfl) (by kernel_rfl) (by kernel_rfl) (by kernel_rfl) (by kernel_rfl) (by kernel_rfl) (by kernel_rfl) trivial
def Yd : TI := ⟨1, 8, .other, [.bT], none⟩
theorem ak6 : bi Try.prog 129 Yd := ai (by kernel_rfl) (by kernel_rfl) (by kernel_rfl) (by kernel_rfl) (by kernel_rfl) (by kernel_rfl) (by kernel_rfl) (by kernel_rfl) (by kernel_rfl) (by kernel_rfl) (by kernel_rfl) trivial
def Yc : TI := ⟨16, 128, .array 16 23, List.replicate 16 (.u64 0), some (.arr 16 .u64)⟩
theorem ak5 : bi Try.prog 130 Yc := ai (by kernel_rfl) (by kernel_rfl) (by kernel_rfl) (by kernel_rfl) (by kernel_rfl) (by kernel_rfl) (by kernel_rfl) (by kernel_rfl) (by kernel_rfl) (by kernel_rfl) (by kernel_rfl) ⟨by kernel_rfl, by kernel_rfl, by kernel_rfl⟩
def Yb : TI := ⟨16, 128, .array 16 3, List.replicate 16 (.int 0), some (.arr 16 .int)⟩
theorem ak4 : bi Try.prog 131 Yb := ai (by kernel_rfl) (by kernel_rfl) (by kernel_rfl) (by kernel_rfl) (by kernel_rfl) (by kernel_rfl) (by kernel_rfl) (by kernel_rfl) (by kernel_rfl) (by kernel_rfl) (by kernel_rfl) ⟨by kernel_rfl, by kernel_rfl, by kernel_rfl⟩
def Ya : TI := ⟨160, 1280, .array 10 131, List.replicate 160 (.int 0), some (.arr 10 (.arr 16 .int))⟩
theorem ak3 : bi Try.prog 132 Ya := ai (by kernel_rfl) (by kernel_rfl) (by kernel_rfl) (by kernel_rfl) (by kernel_rfl) (by kernel_rfl) (by kernel_rfl) (by kernel_rfl) (by kernel_rfl) (by kernel_rfl) (by kernel_rfl) ⟨by kernel_rfl, by kernel_rfl, by kernel_rfl⟩
def X9 : TI := ⟨1, 8, .other, [.bT], none⟩
theorem ak2 : bi Try.prog 133 X9 := ai (by kernel_rfl) (by kernel_rfl) (by kernel_rfl) (by kernel_rfl) (by kernel_rfl) (by kernel_rfl) (by kernel_rfl) (by kernel_rfl) (by kernel_rfl) (by kernel_rfl) (by kernel_rfl) trivial
def X8 : TI := ⟨1, 8, .other, [.bT], none⟩
theorem ak1 : bi Try.prog 134 X8 := ai (by kernel_rfl) (by kernel_rfl) (by kernel_rfl) (by kernel_rfl) (by kernel_rfl) (by kernel_rfl) (by kernel_rfl) (by kernel_rfl) (by kernel_rfl) (by kernel_rfl) (by kernel_rfl) trivial
def X7 : TI := ⟨1, 24, .slice 3, [.emp], some (.list .int)⟩
theorem ak0 : bi Try.prog 135 X7 := ai (by kernel_rfl) (by kernel_rfl) (by kernel_rfl) (by kernel_rfl) (by kernel_rfl) (by kernel_rfl) (by kernel_rfl) (by kernel_rfl) (by kernel_rfl) (by kernel_rfl) (by kernel_rfl) ⟨by kernel_rfl, by kernel_rfl, by kernel_rfl⟩
def X6 : TI := ⟨1, 8, .other, [.bT], none⟩
theorem akZ : bi Try.prog 136 X6 := ai (by kernel_rfl) (by kernel_rfl) (by kernel_rfl) (by kernel_rfl) (by kernel_rfl) (by kernel_rfl) (by kernel_rfl) (by kernel_rfl) (by kernel_rfl) (by kernel_rfl) (by kernel_rfl) trivial
def X5 : TI := ⟨1, 8, .other, [.bT], none⟩
theorem akY : bi Try.prog 137 X5 := ai (by kernel_rfl) (by kernel_rfl) (by kernel_rfl) (by kernel_rfl) (by kernel_rfl) (by kernel_rfl) (by kernel_rfl) (by kernel_rfl) (by kernel_rfl) (by kernel_rfl) (by kernel_rfl) trivial
def X4 : TI := ⟨1, 8, .other, [.bT], none⟩
theorem akX : bi Try.prog 138 X4 := ai (by kernel_rfl) (by kernel_rfl) (by kernel_rfl) (by kernel_rfl) (by kernel_rfl) (by kernel_rfl) (by kernel_rfl) (by kernel_rfl) (by kernel_rfl) (by kernel_rfl) (by kernel_rfl) trivial
def X3 : TI := ⟨1, 16, .iface, [.dj], none⟩
theorem akW : bi Try.prog 139 X3 := ai (by kernel_rfl) (by kernel_rfl) (by kernel_rfl) (by kernel_rfl) (by kernel_rfl) (by kernel_rfl) (by kernel_rfl) (by kernel_rfl) (by kernel_rfl) (by kernel_rfl) (by kernel_rfl) trivial
def X2 : TI := ⟨1, 16, .iface, [.dj], none⟩
theorem akV : bi Try.prog 140 X2 := ai (by kernel_rfl) (by kernel_rfl) (by kernel_rfl) (by kernel_rfl) (by kernel_rfl) (by kernel_rfl) (by kernel_rfl) (by kernel_rfl) (by kernel_rfl) (by kernel_rfl) (by kernel_rfl) trivial
def X1 : TI := ⟨1, 8, .other, [.bT], none⟩
theorem akU : bi Try.prog 141 X1 := ai (by kernel_rfl) (by kernel_rfl) (by kernel_rfl) (by kernel_rfl) (by kernel_rfl) (by kernel_rfl) (by kernel_rfl) (by kernel_rfl) (by kernel_rfl) (by kernel_rfl) (by kernel_rfl) trivial
def X0 : TI := ⟨1, 8, .other, [.bT], none⟩
theorem akT : bi Try.prog 142 X0 := ai (by kernel_rfl) (by kernel_rfl) (by kernel_rfl) (by kernel_rfl) (by kernel_rfl) (by kernel_rfl) (by kernel_rfl) (by kernel_rfl) (by kernel_rfl) (by kernel_rfl) (by kernel_rfl) trivial
def XZ : TI := ⟨6, 48, .array 6 23, [.u64 0, .u64 0, .u64 0, .u64 0, .u64 0, .u64 0], some (.arr 6 .u64)⟩
theorem akS : bi Try.prog 143 XZ := ai (by kernel_rfl) (by kernel_rfl) (by kernel_rfl) (by kernel_rfl) (by kernel_rfl) (by kernel_rfl) (by kernel_rfl) (by kernel_rfl) (by kernel_rfl) (by kernel_rfl) (by kernel_rfl) ⟨by kernel_rfl, by kernel_rfl, by kernel_rfl⟩
def XY : TI := ⟨1, 8, .other, [.bT], none⟩
theorem akR : bi Try.prog 144 XY := ai (by kernel_rfl) (by kernel_rfl) (by kernel_rfl) (by kernel_rfl) (by kernel_rfl) (by kernel_rfl) (by kernel_rfl) (by kernel_rfl) (by kernel_rfl) (by kernel_rfl) (by kernel_rfl) trivial
def XX : TI := ⟨1, 24, .slice 23, [.emp], some (.list .u64)⟩
theorem akQ : bi Try.prog 145 XX := ai (by kernel_rfl) (by kernel_rfl) (by kernel_rfl) (by kernel_rfl) (by kernel_rfl) (by kernel_rfl) (by kernel_rfl) (by kernel_rfl) (by kernel_rfl) (by kernel_rfl) (by kernel_rfl) ⟨by kernel_rfl, by kernel_rfl, by kernel_rfl⟩
def XW : TI := ⟨1, 8, .other, [.bT], none⟩
theorem akP : bi Try.prog 146 XW := ai (by kernel_rfl) (by kernel_rfl) (by kernel_rfl) (by kernel_rfl) (by kernel_rfl) (by kernel_rfl) (by kernel_rfl) (by kernel_rfl) (by kernel_rfl) (by kernel_rfl) (by kernel_rfl) trivial
def XV : TI := ⟨1, 8, .ptr [("Error", 132)], [.od], none⟩
theorem akO : bi Try.prog 147 XV := ai (by kernel_rfl) (by kernel_rfl) (by kernel_rfl) (by kernel_rfl) (by kernel_rfl) (by kernel_rfl) (by kernel_rfl) (by kernel_rfl) (by kernel_rfl) (by kernel_rfl) (by kernel_rfl) trivial
def XU : TI := ⟨1, 8, .other, [.bT], none⟩
theorem akN : bi Try.prog 148 XU := ai (by kernel_rfl) (by kernel_rfl) (by kernel_rfl) (by kernel_rfl) (by kernel_rfl) (by kernel_rfl) (by kernel_rfl) (by kernel_rfl) (by kernel_rfl) (by kernel_rfl) (by kernel_rfl) trivial
def XT : TI := ⟨0, 0, .array 0 16, [], none⟩
theorem akM : bi Try.prog 151 XT := ai (by kernel_rfl) (by kernel_rfl) (by kernel_rfl) (by kernel_rfl) (by kernel_rfl) (by kernel_rfl) (by kernel_rfl) (by kernel_rfl) (by kernel_rfl) (by kernel_rfl) (by kernel_rfl) trivial
def XS : TI := ⟨1, 4, .int .u32, [.bT], none⟩
theorem akL : bi Try.prog 154 XS := ai (by kernel_rfl) (by kernel_rfl) (by kernel_rfl) (by kernel_rfl) (by kernel_rfl) (by kernel_rfl) (by kernel_rfl) (by kernel_rfl) (by kernel_rfl) (by kernel_rfl) (by kernel_rfl) trivial
def XR : TI := ⟨1, 1, .int .u8, [.u8 0], some .u8⟩
theorem akK : bi Try.prog 155 XR := ai (by kernel_rfl) (by kernel_rfl) (by kernel_rfl) (by kernel_rfl) (by kernel_rfl) (by kernel_rfl) (by kernel_rfl) (by kernel_rfl) (by kernel_rfl) (by kernel_rfl) (by kernel_rfl) ⟨by kernel_rfl, by kernel_rfl, by kernel_rfl⟩
def XQ : TI := ⟨1, 1, .int .u8, [.u8 0], some .u8⟩
theorem akJ : bi Try.prog 156 XQ := ai (by kernel_rfl) (by kernel_rfl) (by kernel_rfl) (by kernel_rfl) (by kernel_rfl) (by kernel_rfl) (by kernel_rfl) (by kernel_rfl) (by kernel_rfl) (by kernel_rfl) (by kernel_rfl) ⟨by kernel_rfl, by kernel_rfl, by kernel_rfl⟩
def XP : TI := ⟨1, 8, .other, [.bT], none⟩
theorem akI : bi Try.prog 157 XP := ai (by kernel_rfl) (by kernel_rfl) (by kernel_rfl) (by kernel_rfl) (by kernel_rfl) (by kernel_rfl) (by kernel_rfl) (by kernel_rfl) (by kernel_rfl) (by kernel_rfl) (by kernel_rfl) trivial
def XO : TI := ⟨1, 8, .ptr [], [.od], none⟩
theorem akH : bi Try.prog 158 XO := ai (by kernel_rfl) (by kernel_rfl) (by kernel_rfl) (by kernel_rfl) (by kernel_rfl) (by kernel_rfl) (by kernel_rfl) (by kernel_rfl) (by kernel_rfl) (by kernel_rfl) (by kernel_rfl) trivial
def XN : TI := ⟨1, 4, .int .i32, [.bT], none⟩
theorem akG : bi Try.prog 159 XN := ai (by kernel_rfl) (by kernel_rfl) (by kernel_rfl) (by kernel_rfl) (by kernel_rfl) (by kernel_rfl) (by kernel_rfl) (by kernel_rfl) (by kernel_rfl) (by kernel_rfl) (by kernel_rfl) trivial
def XM : TI := ⟨1, 4, .int .i32, [.bT], none⟩
theorem akF : bi Try.prog 160 XM := ai (by kernel_rfl) (by kernel_rfl) (by kernel_rfl) (by kernel_rfl) (by kernel_rfl) (by kernel_rfl) (by kernel_rfl) (by kernel_rfl) (by kernel_rfl) (by kernel_rfl) (by kernel_rfl) trivial
def XL : TI := ⟨1, 8, .ptr [("Next", 118)], [.od], none⟩
theorem akE : bi Try.prog 163 XL := ai (by kernel_rfl) (by kernel_rfl) (by kernel_rfl) (by kernel_rfl) (by kernel_rfl) (by kernel_rfl) (by kernel_rfl) (by kernel_rfl) (by kernel_rfl) (by kernel_rfl) (by kernel_rfl) trivial
def XK : TI := ⟨128, 128, .array 128 5, List.replicate 128 (.u8 0), some (.arr 128 .u8)⟩
theorem akD : bi Try.prog 164 XK := ai (by kernel_rfl) (by kernel_rfl) (by kernel_rfl) (by kernel_rfl) (by kernel_rfl) (by kernel_rfl) (by kernel_rfl) (by kernel_rfl) (by kernel_rfl) (by kernel_rfl) (by kernel_rfl) ⟨by kernel_rfl, by kernel_rfl, by kernel_rfl⟩
def XJ : TI := ⟨1, 8, .other, [.bT], none⟩
theorem akC : bi Try.prog 165 XJ := ai (by kernel_rfl) (by kernel_rfl) (by kernel_rfl) (by kernel_rfl) (by kernel_rfl) (by kernel_rfl) (by kernel_rfl) (by kernel_rfl) (by kernel_rfl) (by kernel_rfl) (by kernel_rfl) trivial
def XI : TI := ⟨1, 8, .other, [.bT], none⟩
theorem akB : bi Try.prog 166 XI := ai (by kernel_rfl) (by kernel_rfl) (by kernel_rfl) (by kernel_rfl) (by kernel_rfl) (by kernel_rfl) (by kernel_rfl) (by kernel_rfl) (by kernel_rfl) (by kernel_rfl) (by kernel_rfl) trivial
def XH : TI := ⟨16, 128, .array 16 23, List.replicate 16 (.u64 0), some (.arr 16 .u64)⟩
theorem akA : bi Try.prog 167 XH := ai (by kernel_rfl) (by kernel_rfl) (by kernel_rfl) (by kernel_rfl) (by kernel_rfl) (by kernel_rfl) (by kernel_rfl) (by kernel_rfl) (by kernel_rfl) (by kernel_rfl) (by kernel_rfl) ⟨by kernel_rfl, by kernel_rfl, by kernel_rfl⟩
def XG : TI := ⟨10, 160, .array 10 9, List.replicate 10 (.str []), some (.arr 10 .str)⟩
theorem akz : bi Try.prog 168 XG := ai (by kernel_rfl) (by kernel_rfl) (by kernel_rfl) (by kernel_rfl) (by kernel_rfl) (by kernel_rfl) (by kernel_rfl) (by kernel_rfl) (by kernel_rfl) (by kernel_rfl) (by kernel_rfl) ⟨by kernel_rfl, by kernel_rfl, by kernel_rfl⟩
def XF : TI := ⟨1, 8, .other, [.bT], none⟩
theorem aky : bi Try.prog 169 XF := ai (by kernel_rfl) (by kernel_rfl) (by kernel_rfl) (by kernel_rfl) (by kernel_rfl) (by kernel_rfl) (by kernel_rfl) (by kernel_rfl) (by kernel_rfl) (by kernel_rfl) (by kernel_rfl) trivial
def XE : TI := ⟨1, 8, .other, [.bT], none⟩
theorem akx : bi Try.prog 170 XE := ai (by kernel_rfl) (by kernel_rfl) (by kernel_rfl) (by kernel_rfl) (by kernel_rfl) (by kernel_rfl) (by kernel_rfl) (by kernel_rfl) (by kernel_rfl) (by kernel_rfl) (by kernel_rfl) trivial
def XD : TI := ⟨1, 8, .other, [.bT], none⟩
theorem akw : bi Try.prog 171 XD := ai (by kernel_rfl) (by kernel_rfl) (by kernel_rfl) (by kernel_rfl) (by kernel_rfl) (by kernel_rfl) (by kernel_rfl) (by kernel_rfl) (by kernel_rfl) (by kernel_rfl) (by kernel_rfl) trivial
def XC : TI := ⟨8, 64, .array 2 25, [.u64 0, .u64 0, .u64 0, .u64 0, .u64 0, .u64 0, .u64 0, .u64 0], some (.arr 2 .elem)⟩
theorem akv : bi Try.prog 172 XC := ai (by kernel_rfl) (by kernel_rfl) (by kernel_rfl) (by kernel_rfl) (by kernel_rfl) (by kernel_rfl) (by kernel_rfl) (by kernel_rfl) (by kernel_rfl) (by kernel_rfl) (by kernel_rfl) ⟨by kernel_rfl, by kernel_rfl, by kernel_rfl⟩
def XB : TI := ⟨1, 8, .other, [.bT], none⟩
theorem aku : bi Try.prog 174 XB := ai (by kernel_rfl) (by kernel_rfl) (by kernel_rfl) (by kernel_rfl) (by kernel_rfl) (by kernel_rfl) (by kernel_rfl) (by kernel_rfl) (by kernel_rfl) (by kernel_rfl) (by kernel_rfl) trivial
def XA : TI := ⟨1, 8, .ptr [("sigil/blake.mix", 129)], [.od], none⟩
theorem akt : bi Try.prog 175 XA := ai (by kernel_rfl) (by kernel_rfl) (by kernel_rfl) (by kernel_rfl) (by kernel_rfl) (by kernel_rfl) (by kernel_rfl) (by kernel_rfl) (by kernel_rfl) (by kernel_rfl) (by kernel_rfl) trivial
def Xz : TI := ⟨1, 8, .other, [.bT], none⟩
theorem aks : bi Try.prog 176 Xz := ai (by kernel_rfl) (by kernel_rfl) (by kernel_rfl) (by kernel_rfl) (by kernel_rfl) (by kernel_rfl) (by kernel_rfl) (by kernel_rfl) (by kernel_rfl) (by kernel_rfl) (by kernel_rfl) trivial
def Xy : TI := ⟨1, 16, .struct [(0, 9)], [.str []], some .str⟩
theorem akr : bi Try.prog 177 Xy := ai (by kernel_rfl) (by kernel_rfl) (by kernel_rfl) (by kernel_rfl) (by kernel_rfl) (by kernel_rfl) (by kernel_rfl) (by kernel_rfl) (by kernel_rfl) (by kernel_rfl) (by kernel_rfl) ⟨by kernel_rfl, by kernel_rfl, by kernel_rfl⟩
def Xx : TI := ⟨1, 16, .struct [(0, 9)], [.str []], some .str⟩
theorem akq : bi Try.prog 178 Xx := ai (by kernel_rfl) (by kernel_rfl) (by kernel_rfl) (by kernel_rfl) (by kernel_rfl) (by kernel_rfl) (by kernel_rfl) (by kernel_rfl) (by kernel_rfl) (by kernel_rfl) (by kernel_rfl) ⟨by kernel_rfl, by kernel_rfl, by kernel_rfl⟩
def Xw : TI := ⟨1, 8, .other, [.od], none⟩
theorem akp : bi Try.prog 179 Xw := ai (by kernel_rfl) (by kernel_rfl) (by kernel_rfl) (by kernel_rfl) (by kernel_rfl) (by kernel_rfl) (by kernel_rfl) (by kernel_rfl) (by kernel_rfl) (by kernel_rfl) (by kernel_rfl) trivial
def te : TE := (ap 1 anY (ap 2 anX (ap 3 anW (ap 4 anV (ap 5 anU (ap 6 anT (ap 7 anS (ap 8 anR (ap 9 anQ (ap 10 afF (ap 11 afE (ap 12 afD (ap 15 afC (ap 16 afB (ap 17 afA (ap 20 afz (ap 21 afy (ap 22 TL (ap 23 afx (ap 24 afw (ap 25 Lb (ap 26 afv (ap 27 afu (ap 28 aft (ap 29 afs (ap 30 afr (ap 31 afq (ap 32 afp (ap 33 afo (ap 34 afn (ap 36 afm (ap 37 afl (ap 38 afk (ap 39 afj (ap 40 afi (ap 41 afh (ap 42 afg (ap 43 aff (ap 44 afe (ap 45 afd (ap 46 afc (ap 48 afb (ap 49 afa (ap 50 ae9 (ap 51 ae8 (ap 52 ae7 (ap 53 ae6 (ap 54 ae5 (ap 55 ae4 (ap 57 ae3 (ap 58 ae2 (ap 59 ae1 (ap 60 ae0 (ap 61 aeZ (ap 62 aeY (ap 64 aeX (ap 65 aeW (ap 66 aeV (ap 67 aeU (ap 69 aeT (ap 70 aeS (ap 71 aeR (ap 73 aeQ (ap 74 aeP (ap 75 aeO (ap 77 aeN (ap 78 aeM (ap 79 aeL (ap 80 aeK (ap 81 aeJ (ap 82 aeI (ap 83 aeH (ap 84 aeG (ap 85 aeF (ap 86 aeE (ap 87 aeD (ap 88 aeC (ap 89 aeB (ap 90 aeA (ap 92 aez (ap 93 aey (ap 94 aex (ap 95 aew (ap 96 aev (ap 97 aeu (ap 98 aet (ap 99 aes (ap 100 YC (ap 101 YB (ap 102 YA (ap 103 Yz (ap 105 Yy (ap 106 Yx (ap 107 Yw (ap 108 Yv (ap 109 Yu (ap 110 Yt (ap 112 Ys (ap 113 Yr (ap 115 Yq (ap 116 Yp (ap 117 Yo (ap 118 Yn (ap 119 Ym (ap 120 Yl (ap 121 Yk (ap 122 Yj (ap 123 Yi (ap 124 Yh (ap 125 Yg (ap 126 Yf (ap 128 Ye (ap 129 Yd (ap 130 Yc (ap 131 Yb (ap 132 Ya (ap 133 X9 (ap 134 X8 (ap 135 X7 (ap 136 X6 (ap 137 X5 (ap 138 X4 (ap 139 X3 (ap 140 X2 (ap 141 X1 (ap 142 X0 (ap 143 XZ (ap 144 XY (ap 145 XX (ap 146 XW (ap 147 XV (ap 148 XU (ap 151 XT (ap 154 XS (ap 155 XR (ap 156 XQ (ap 157 XP (ap 158 XO (ap 159 XN (ap 160 XM (ap 163 XL (ap 164 XK (ap 165 XJ (ap 166 XI (ap 167 XH (ap 168 XG (ap 169 XF (ap 170 XE (ap 171 XD (ap 172 XC (ap 174 XB (ap 175 XA (ap 176 Xz (ap 177 Xy (ap 178 Xx (ap 179 Xw asz))))))))))))))))))))))))))))))))))))))))))))))))))))))))))))))))))))))))))))))))))))))))))))))))))))))))))))))))))))))))))))))))))))))))))))))))))))))))))))
theorem ak : li Try.prog te := (ac asy (ac asx (ac asw (ac asv (ac asu (ac ast (ac ass (ac asr (ac asq (ac ap5 (ac ap4 (ac ap3 (ac ap2 (ac ap1 (ac ap0 (ac apZ (ac apY (ac apX (ac apW (ac apV (ac apU (ac apT (ac apS (ac apR (ac apQ (ac apP (ac apO (ac apN (ac apM (ac apL (ac apK (ac apJ (ac apI (ac apH (ac apG (ac apF (ac apE (ac apD (ac apC (ac apB (ac apA (ac apz (ac apy (ac apx (ac apw (ac apv (ac apu (ac apt (ac aps (ac apr (ac apq (ac app (ac apo (ac apn (ac apm (ac apl (ac apk (ac apj (ac api (ac aph (ac apg (ac apf (ac ape (ac apd (ac apc (ac apb (ac apa (ac ao9 (ac ao8 (ac ao7 (ac ao6 (ac ao5 (ac ao4 (ac ao3 (ac ao2 (ac ao1 (ac ao0 (ac aoZ (ac aoY (ac aoX (ac aoW (ac aoV (ac aoU (ac aoT (ac aoS (ac aoR (ac aoQ (ac alw (ac alv (ac alu (ac alt (ac als (ac alr (ac alq (ac alp (ac alo (ac aln (ac alm (ac alk (ac alj (ac ali (ac alh (ac alg (ac alf (ac ale (ac ald (ac alc (ac alb (ac ala (ac ak9 (ac ak8 (ac ak7 (ac ak6 (ac ak5 (ac ak4 (ac ak3 (ac ak2 (ac ak1 (ac ak0 (ac akZ (ac akY (ac akX (ac akW (ac akV (ac akU (ac akT (ac akS (ac akR (ac akQ (ac akP (ac akO (ac akN (ac akM (ac akL (ac akK (ac akJ (ac akI (ac akH (ac akG (ac akF (ac akE (ac akD (ac akC (ac akB (ac akA (ac akz (ac aky (ac akx (ac akw (ac akv (ac aku (ac akt (ac aks (ac akr (ac akq (ac akp alx))))))))))))))))))))))))))))))))))))))))))))))))))))))))))))))))))))))))))))))))))))))))))))))))))))))))))))))))))))))))))))))))))))))))))))))))))))))))))))
theorem follows : Try.prog.follows .mixedOrders = true := by kernel_rfl
def E0 : Env := aiC
theorem anL : aN Try.prog E0 := aiB
theorem ajY : aq E0 := VX
theorem aoq : aU Try.prog te E0 := aG follows ak anL ajY
end Go.Proofs.Ytohjofabochgfaa

namespace Go.Proofs.Ytohjofabochgfaa
open Sx Go
def iY (b : List UInt8) (k : Nat) : UInt64 := (List.range k).foldl (fun v (i : Nat) => v ||| bH (UInt8.toUInt64 (b.getD i 0)) (8 * (i : Int))) 0
theorem Im (b : List UInt8) (k : Nat) : iY b (k + 1) = iY b k ||| bH (UInt8.toUInt64 (b.getD k 0)) (8 * (k : Int)) := by
  simp [iY, List.range_succ]
end Go.Proofs.Ytohjofabochgfaa

namespace Go.Proofs.Ytohjofabochgfaa
open Sx Go
set_option maxRecDepth 100000
def ks : ao := ⟨[.val false (.list .u8)], [], true, 0, false⟩
abbrev Kq : Type := ((List (UInt8)) × Unit) × (Unit)
def wK : Shape := ⟨22, [(3, .val false .u64), (6, .val false (.list .u8)), (7, .val false .int), (8, .val false .int)], [], 0, true⟩
abbrev cK : Type := ((UInt64) × (List (UInt8)) × (Int) × (Int) × Unit) × (Unit)
def rK : Shape := ⟨22, [(3, .val false .u64)], [], 0, true⟩
abbrev kr : Type := ((UInt64) × Unit) × (Unit)
def aad : SE → Option Shape := iX [(0, rK)] none
def Nr (a3 : UInt64) (a6 : List (UInt8)) (a7 : Int) (a8 : Int) : OT (Sum cK aJ) :=
  (.br (decide (a8 < a7))
  (gd [inB a8 (List.length a6), inR ((8 : Int) * a8), decide ((0 : Int) ≤ (8 : Int) * a8), inR (a8 + (1 : Int))] (.ok (.inl ((a3 ||| bH (UInt8.toUInt64 (List.getD a6 (Int.toNat a8) (0 : UInt8))) ((8 : Int) * a8), (a6, (a7, (a8 + (1 : Int), ())))), ()))))
  (.ok (.inr ⟨(.exit 0, rK), ((a3, ()), ())⟩)))
def nS (s : cK) : OT (Sum cK aJ) := Nr (s.1.1) (s.1.2.1) (s.1.2.2.1) (s.1.2.2.2.1)
theorem anf (s : cK) (Q : Sum cK aJ → Prop) : wps te E0 au 1000 (bq (aj Try.f75) 0) (wK.inj s) (cE wK aad (Q : Sum wK.T aJ → Prop)) = (nS s).wpR Q := by kernel_rfl
def CU (g0_0 : cK → kr) (s : cK) : OT aJ := (.ok ⟨(.exit 0, rK), g0_0 s⟩)
def Nq : ar := ⟨[.val false .u64], [], false⟩
def RG : SV → Option ar := fun _ => some Nq
def Wa (ok0 : cK → Bool) (g0_0 : cK → kr) (a0 : List (UInt8)) : OT ks.Y :=
  let z0 : (UInt64 × List UInt8 × Int × Int × PUnit) × PUnit := (((0 : UInt64), a0, (↑(List.length a0) : Int), (0 : Int), ()), ())
  (gd [ok0 z0] (.ok ⟨Nq, (((g0_0 z0).fst.fst, ()), ())⟩))
theorem arJ (ok0 : cK → Bool) (g0_0 : cK → kr) (x : Kq) (Q : ks.Y → Prop) : wpf te E0 (bj 0 (cS wK 0 ok0 (CU g0_0)) au) 1000 Try.f75 (ks.inp.inj x).tm (ks.inp.inj x).hp (fnK ks RG Q) (fun _ _ => False) = (Wa ok0 g0_0 (x.1.1)).wpR Q := by kernel_rfl
theorem ade (ok0 : cK → Bool) (g0_0 : cK → kr) (h0 : ∀ s : cK, ok0 s = true → ∃ m e, ay (nS) m s = some e ∧ (CU g0_0 s).run = some e) (pre : Kq → Bool) (F : Kq → OT ks.Y) (hF : ∀ (x : Kq) oy, pre x = true → (F x).run = some oy → (Wa ok0 g0_0 (x.1.1)).run = some oy) : aa Try.prog 75 (ks.aE pre F) :=
  az ak anL aoq (f := 75) (fn := Try.f75) (c := aj Try.f75) (by kernel_rfl) (by kernel_rfl) (by kernel_rfl) (S := ks) (k := 0) (by kernel_rfl) (fun R hR => (aH (c := (aj Try.f75)) (by kernel_rfl) (id := 0) (by kernel_rfl) (bg ak anL aoq (sh := wK) hR (xs := aad) (aF (by kernel_rfl) (by kernel_rfl) hR) aS ae (n := 1000) (T := nS) (fun s Q => anf s Q) (ok := ok0) (f := CU g0_0) h0) ae)) (n := 1000) (sel := RG) (fun v o h => by cases h; rfl) (pre := pre) (F := F) (T := fun x => Wa ok0 g0_0 (x.1.1)) (fun x Q => arJ ok0 g0_0 x Q) hF
def RH (s : cK) : Bool := decide (s.1.1 = 0 ∧ s.1.2.2.1 = (s.1.2.1.length : Int) ∧ s.1.2.2.2.1 = 0 ∧ s.1.2.1.length ≤ 4096)
def aae (s : cK) : kr := ((iY s.1.2.1 s.1.2.1.length, ()), ())
theorem anh : ∀ s, RH s = true → ∃ m e, ay nS m s = some e ∧ (CU aae s).run = some e := by
  rintro ⟨⟨v, b, n, i, ⟨⟩⟩, ⟨⟩⟩ h
  have h' := of_decide_eq_true h
  dsimp only at h'
  obtain ⟨rfl, rfl, rfl, hl⟩ := h'
  have := EU (T := nS) (fun k => ((iY b k, b, (b.length : Int), (k : Int), ()), ())) b.length (e := ⟨(.exit 0, rK), ((iY b b.length, ()), ())⟩) (fun k hk => ?_) ?_ 0 (Nat.zero_le _)
  · obtain ⟨m, hm⟩ := this
    exact ⟨m, _, hm, rfl⟩
  · unfold nS Nr
    dsimp only
    rw [OT.aw (decide_eq_true (by omega)), ah (by simp; exact ⟨aI (by omega), aK (by omega), by omega, aK (by omega)⟩), OT.cn, Im]
    rfl
  · unfold nS Nr
    dsimp only
    rw [OT.al (decide_eq_false (by omega)), OT.cn]
def kq (x : Kq) : Bool := decide (x.1.1.length ≤ 4096)
def ai8 (x : Kq) : OT ks.Y := .ok ⟨Nq, ((iY x.1.1 x.1.1.length, ()), ())⟩
theorem ang : aa Try.prog 75 (ks.aE kq ai8) := ade RH aae anh _ _ fun x oy hp ho => by
  rw [← ho]
  have hp' := of_decide_eq_true hp
  refine (OT.aw ?_).trans ?_
  · exact decide_eq_true ⟨rfl, rfl, rfl, hp'⟩
  · rfl
def Ag : bL := (ks.aE kq ai8)
theorem V9 : aa Try.prog 75 Ag := ang
theorem V8 : aB Ag := ax
def Ht : Env := av 75 Ag E0
theorem A3 : aN Try.prog Ht := ag V9 anL
theorem Cj : aq Ht := ab V8 ajY
theorem W5 : aU Try.prog te Ht := aG follows ak A3 Cj
def oJ : ao := ⟨[.val false .u64, .val false .int], [], true, 0, false⟩
abbrev abc : Type := ((UInt64) × (Int) × Unit) × (Unit)
def Ud : ar := ⟨[.val false .u64], [], false⟩
def YL : SV → Option ar := fun _ => some Ud
def afY (a0 : UInt64) (a1 : Int) : OT oJ.Y :=
  (.ok ⟨Ud, ((bH a0 (↑(UInt64.toNat (i2u a1 &&& (63 : UInt64))) : Int) ||| aX a0 (↑(UInt64.toNat ((64 : UInt64) - (i2u a1 &&& (63 : UInt64)))) : Int), ()), ())⟩)
theorem asB (x : abc) (Q : oJ.Y → Prop) : wpf te Ht au 1000 Try.f131 (oJ.inp.inj x).tm (oJ.inp.inj x).hp (fnK oJ YL Q) (fun _ _ => False) = (afY (x.1.1) (x.1.2.1)).wpR Q := by kernel_rfl
theorem afX (pre : abc → Bool) (F : abc → OT oJ.Y) (hF : ∀ (x : abc) oy, pre x = true → (F x).run = some oy → (afY (x.1.1) (x.1.2.1)).run = some oy) : aa Try.prog 131 (oJ.aE pre F) :=
  az ak A3 W5 (f := 131) (fn := Try.f131) (c := aj Try.f131) (by kernel_rfl) (by kernel_rfl) (by kernel_rfl) (S := oJ) (k := 0) (by kernel_rfl) (fun R hR => ae) (n := 1000) (sel := YL) (fun v o h => by cases h; rfl) (pre := pre) (F := F) (T := fun x => afY (x.1.1) (x.1.2.1)) (fun x Q => asB x Q) hF
def rotl (a : UInt64) (n : Int) : UInt64 := bH a (UInt64.toNat (i2u n &&& 63) : Int) ||| aX a (UInt64.toNat (64 - (i2u n &&& 63)) : Int)
def YM (_ : abc) : Bool := true
def an0 (x : abc) : OT oJ.Y := .ok ⟨Ud, ((rotl x.1.1 x.1.2.1, ()), ())⟩
theorem aql : aa Try.prog 131 (oJ.aE YM an0) := afX _ _ fun x oy _ ho => ho
def DN : bL := (oJ.aE YM an0)
theorem abb : aa Try.prog 131 DN := aql
theorem aba : aB DN := ax
def SA : Env := av 131 DN Ht
theorem GN : aN Try.prog SA := ag abb A3
theorem GO : aq SA := ab aba Cj
theorem adC : aU Try.prog te SA := aG follows ak GN GO
def pX : ao := ⟨[.val false .u8], [], true, 0, false⟩
abbrev adl : Type := ((UInt8) × Unit) × (Unit)
def Ny : ar := ⟨[.val false .int], [], false⟩
def aak : SV → Option ar := fun _ => some Ny
def aji (a0 : UInt8) : OT pX.Y :=
  (.br (decide ((97 : UInt8) ≤ a0))
  (gd [inR ((↑(UInt8.toNat (a0 - (97 : UInt8))) : Int) + (10 : Int))] (.ok ⟨Ny, (((↑(UInt8.toNat (a0 - (97 : UInt8))) : Int) + (10 : Int), ()), ())⟩))
  (.ok ⟨Ny, (((↑(UInt8.toNat (a0 - (48 : UInt8))) : Int), ()), ())⟩))
theorem atp (x : adl) (Q : pX.Y → Prop) : wpf te SA au 1000 Try.f128 (pX.inp.inj x).tm (pX.inp.inj x).hp (fnK pX aak Q) (fun _ _ => False) = (aji (x.1.1)).wpR Q := by kernel_rfl
theorem ajh (pre : adl → Bool) (F : adl → OT pX.Y) (hF : ∀ (x : adl) oy, pre x = true → (F x).run = some oy → (aji (x.1.1)).run = some oy) : aa Try.prog 128 (pX.aE pre F) :=
  az ak GN adC (f := 128) (fn := Try.f128) (c := aj Try.f128) (by kernel_rfl) (by kernel_rfl) (by kernel_rfl) (S := pX) (k := 0) (by kernel_rfl) (fun R hR => ae) (n := 1000) (sel := aak) (fun v o h => by cases h; rfl) (pre := pre) (F := F) (T := fun x => aji (x.1.1)) (fun x Q => atp x Q) hF
def nib (c : UInt8) : Int := if 97 ≤ c then (UInt8.toNat (c - 97) : Int) + 10 else (UInt8.toNat (c - 48) : Int)
def aal (_ : adl) : Bool := true
def aam (x : adl) : OT pX.Y := .ok ⟨Ny, ((nib x.1.1, ()), ())⟩
theorem arO : aa Try.prog 128 (pX.aE aal aam) := ajh _ _ fun x oy _ ho => by
  rw [← ho]
  have hlt := (x.1.1 - 97).toNat_lt
  by_cases h : 97 ≤ x.1.1
  · refine (OT.aw (decide_eq_true h)).trans ((ah (by simp; exact aK (by omega))).trans ?_)
    simp only [aam, nib, if_pos h]
  · refine (OT.al (decide_eq_false h)).trans ?_
    simp only [aam, nib, if_neg h]
def Ga : bL := (pX.aE aal aam)
theorem adk : aa Try.prog 128 Ga := arO
theorem adj : aB Ga := ax
def SZ : Env := av 128 Ga SA
theorem Hu : aN Try.prog SZ := ag adk GN
theorem Hv : aq SZ := ab adj GO
theorem adM : aU Try.prog te SZ := aG follows ak Hu Hv
def gP : ao := ⟨[], [], true, 0, false⟩
abbrev Ai : Type := (Unit) × (Unit)
def F8 : ar := ⟨[.val true (.arr 8 .u64)], [], false⟩
def Kr : SV → Option ar := fun _ => some F8
def Nw : OT gP.Y :=
  (.ok ⟨F8, (([(7640891576956012808 : UInt64), (13503953896175478587 : UInt64), (4354685564936845355 : UInt64), (11912009170470909681 : UInt64), (5840696475078001361 : UInt64), (11170449401992604703 : UInt64), (2270897969802886507 : UInt64), (6620516959819538809 : UInt64)], ()), ())⟩)
theorem ani (x : Ai) (Q : gP.Y → Prop) : wpf te SZ au 1000 Try.f74 (gP.inp.inj x).tm (gP.inp.inj x).hp (fnK gP Kr Q) (fun _ _ => False) = (Nw).wpR Q := by kernel_rfl
theorem Wg (pre : Ai → Bool) (F : Ai → OT gP.Y) (hF : ∀ (x : Ai) oy, pre x = true → (F x).run = some oy → (Nw).run = some oy) : aa Try.prog 74 (gP.aE pre F) :=
  az ak Hu adM (f := 74) (fn := Try.f74) (c := aj Try.f74) (by kernel_rfl) (by kernel_rfl) (by kernel_rfl) (S := gP) (k := 0) (by kernel_rfl) (fun R hR => ae) (n := 1000) (sel := Kr) (fun v o h => by cases h; rfl) (pre := pre) (F := F) (T := fun x => Nw) (fun x Q => ani x Q) hF
def bIV : List UInt64 := [0x6a09e667f3bcc908, 0xbb67ae8584caa73b, 0x3c6ef372fe94f82b, 0xa54ff53a5f1d36f1, 0x510e527fade682d1, 0x9b05688c2b3e6c1f, 0x1f83d9abfb41bd6b, 0x5be0cd19137e2179]
def Ks (_ : Ai) : Bool := true
def aah (_ : Ai) : OT gP.Y := .ok ⟨F8, ((bIV, ()), ())⟩
theorem ajf : aa Try.prog 74 (gP.aE Ks aah) := Wg _ _ fun x oy _ ho => ho
def uf : bL := (gP.aE Ks aah)
theorem RL : aa Try.prog 74 uf := ajf
theorem RK : aB uf := ax
def yd : Env := av 74 uf SZ
theorem uL : aN Try.prog yd := ag RL Hu
theorem yb : aq yd := ab RK Hv
theorem SX : aU Try.prog te yd := aG follows ak uL yb
def gQ : ao := ⟨[], [], true, 0, false⟩
abbrev Aj : Type := (Unit) × (Unit)
def F9 : ar := ⟨[.val true (.arr 10 .str)], [], false⟩
def Kt : SV → Option ar := fun _ => some F9
def Nx : OT gQ.Y :=
  (.ok ⟨F9, (([[(48 : UInt8), (49 : UInt8), (50 : UInt8), (51 : UInt8), (52 : UInt8), (53 : UInt8), (54 : UInt8), (55 : UInt8), (56 : UInt8), (57 : UInt8), (97 : UInt8), (98 : UInt8), (99 : UInt8), (100 : UInt8), (101 : UInt8), (102 : UInt8)], [(101 : UInt8), (97 : UInt8), (52 : UInt8), (56 : UInt8), (57 : UInt8), (102 : UInt8), (100 : UInt8), (54 : UInt8), (49 : UInt8), (99 : UInt8), (48 : UInt8), (50 : UInt8), (98 : UInt8), (55 : UInt8), (53 : UInt8), (51 : UInt8)], [(98 : UInt8), (56 : UInt8), (99 : UInt8), (48 : UInt8), (53 : UInt8), (50 : UInt8), (102 : UInt8), (100 : UInt8), (97 : UInt8), (101 : UInt8), (51 : UInt8), (54 : UInt8), (55 : UInt8), (49 : UInt8), (57 : UInt8), (52 : UInt8)], [(55 : UInt8), (57 : UInt8), (51 : UInt8), (49 : UInt8), (100 : UInt8), (99 : UInt8), (98 : UInt8), (101 : UInt8), (50 : UInt8), (54 : UInt8), (53 : UInt8), (97 : UInt8), (52 : UInt8), (48 : UInt8), (102 : UInt8), (56 : UInt8)], [(57 : UInt8), (48 : UInt8), (53 : UInt8), (55 : UInt8), (50 : UInt8), (52 : UInt8), (97 : UInt8), (102 : UInt8), (101 : UInt8), (49 : UInt8), (98 : UInt8), (99 : UInt8), (54 : UInt8), (56 : UInt8), (51 : UInt8), (100 : UInt8)], [(50 : UInt8), (99 : UInt8), (54 : UInt8), (97 : UInt8), (48 : UInt8), (98 : UInt8), (56 : UInt8), (51 : UInt8), (52 : UInt8), (100 : UInt8), (55 : UInt8), (53 : UInt8), (102 : UInt8), (101 : UInt8), (49 : UInt8), (57 : UInt8)], [(99 : UInt8), (53 : UInt8), (49 : UInt8), (102 : UInt8), (101 : UInt8), (100 : UInt8), (52 : UInt8), (97 : UInt8), (48 : UInt8), (55 : UInt8), (54 : UInt8), (51 : UInt8), (57 : UInt8), (50 : UInt8), (56 : UInt8), (98 : UInt8)], [(100 : UInt8), (98 : UInt8), (55 : UInt8), (101 : UInt8), (99 : UInt8), (49 : UInt8), (51 : UInt8), (57 : UInt8), (53 : UInt8), (48 : UInt8), (102 : UInt8), (52 : UInt8), (56 : UInt8), (54 : UInt8), (50 : UInt8), (97 : UInt8)], [(54 : UInt8), (102 : UInt8), (101 : UInt8), (57 : UInt8), (98 : UInt8), (51 : UInt8), (48 : UInt8), (56 : UInt8), (99 : UInt8), (50 : UInt8), (100 : UInt8), (55 : UInt8), (49 : UInt8), (52 : UInt8), (97 : UInt8), (53 : UInt8)], [(97 : UInt8), (50 : UInt8), (56 : UInt8), (52 : UInt8), (55 : UInt8), (54 : UInt8), (49 : UInt8), (53 : UInt8), (102 : UInt8), (98 : UInt8), (57 : UInt8), (101 : UInt8), (51 : UInt8), (99 : UInt8), (100 : UInt8), (48 : UInt8)]], ()), ())⟩)
theorem anj (x : Aj) (Q : gQ.Y → Prop) : wpf te yd au 1000 Try.f126 (gQ.inp.inj x).tm (gQ.inp.inj x).hp (fnK gQ Kt Q) (fun _ _ => False) = (Nx).wpR Q := by kernel_rfl
theorem Wh (pre : Aj → Bool) (F : Aj → OT gQ.Y) (hF : ∀ (x : Aj) oy, pre x = true → (F x).run = some oy → (Nx).run = some oy) : aa Try.prog 126 (gQ.aE pre F) :=
  az ak uL SX (f := 126) (fn := Try.f126) (c := aj Try.f126) (by kernel_rfl) (by kernel_rfl) (by kernel_rfl) (S := gQ) (k := 0) (by kernel_rfl) (fun R hR => ae) (n := 1000) (sel := Kt) (fun v o h => by cases h; rfl) (pre := pre) (F := F) (T := fun x => Nx) (fun x Q => anj x Q) hF
def fu : List (List UInt8) := [[48, 49, 50, 51, 52, 53, 54, 55, 56, 57, 97, 98, 99, 100, 101, 102],
  [101, 97, 52, 56, 57, 102, 100, 54, 49, 99, 48, 50, 98, 55, 53, 51],
  [98, 56, 99, 48, 53, 50, 102, 100, 97, 101, 51, 54, 55, 49, 57, 52],
  [55, 57, 51, 49, 100, 99, 98, 101, 50, 54, 53, 97, 52, 48, 102, 56],
  [57, 48, 53, 55, 50, 52, 97, 102, 101, 49, 98, 99, 54, 56, 51, 100],
  [50, 99, 54, 97, 48, 98, 56, 51, 52, 100, 55, 53, 102, 101, 49, 57],
  [99, 53, 49, 102, 101, 100, 52, 97, 48, 55, 54, 51, 57, 50, 56, 98],
  [100, 98, 55, 101, 99, 49, 51, 57, 53, 48, 102, 52, 56, 54, 50, 97],
  [54, 102, 101, 57, 98, 51, 48, 56, 99, 50, 100, 55, 49, 52, 97, 53],
  [97, 50, 56, 52, 55, 54, 49, 53, 102, 98, 57, 101, 51, 99, 100, 48]]
def Ku (_ : Aj) : Bool := true
def aai (_ : Aj) : OT gQ.Y := .ok ⟨F9, ((fu, ()), ())⟩
theorem ajg : aa Try.prog 126 (gQ.aE Ku aai) := Wh _ _ fun x oy _ ho => ho
def ug : bL := (gQ.aE Ku aai)
theorem RN : aa Try.prog 126 ug := ajg
theorem RM : aB ug := ax
def yf : Env := av 126 ug yd
theorem uM : aN Try.prog yf := ag RN uL
theorem ye : aq yf := ab RM yb
theorem SY : aU Try.prog te yf := aG follows ak uM ye
def pZ : ao := ⟨[.ptr 0 0 0, .val false .int, .val false .int, .val false .int, .val false .int, .val false .u64, .val false .u64], [(0, .row .u64)], false, 1, true⟩
abbrev adr : Type := ((Unit) × (Int) × (Int) × (Int) × (Int) × (UInt64) × (UInt64) × Unit) × ((List (UInt64)) × Unit)
def Wk : ar := ⟨[], [(0, .row .u64)], false⟩
def aao : SV → Option ar := fun _ => some Wk
def ajm (a1 : Int) (a2 : Int) (a3 : Int) (a4 : Int) (a5 : UInt64) (a6 : UInt64) (c0 : List (UInt64)) : OT pZ.Y :=
  let z0 : Bool := inB a1 16
  let z1 : Nat := List.length c0
  let z2 : Bool := decide (Int.toNat a1 + 0 < z1)
  let z3 : Bool := inB a2 16
  let z4 : Bool := inB a4 16
  let z5 : List UInt64 := List.set c0 (Int.toNat a1 + 0) (List.getD c0 (Int.toNat a1 + 0) (0 : UInt64) + (List.getD c0 (Int.toNat a2 + 0) (0 : UInt64) + a5))
  let z6 : Nat := List.length z5
  let z7 : Bool := decide (Int.toNat a4 + 0 < z6)
  let z8 : Bool := inB a3 16
  let z9 : List UInt64 := List.set z5 (Int.toNat a4 + 0) (rotl (List.getD z5 (Int.toNat a4 + 0) (0 : UInt64) ^^^ List.getD z5 (Int.toNat a1 + 0) (0 : UInt64)) (-32 : Int))
  let z10 : Nat := List.length z9
  let z11 : Bool := decide (Int.toNat a3 + 0 < z10)
  let z12 : List UInt64 := List.set z9 (Int.toNat a3 + 0) (List.getD z9 (Int.toNat a3 + 0) (0 : UInt64) + List.getD z9 (Int.toNat a4 + 0) (0 : UInt64))
  let z13 : Nat := List.length z12
  let z14 : Bool := decide (Int.toNat a2 + 0 < z13)
  let z15 : List UInt64 := List.set z12 (Int.toNat a2 + 0) (rotl (List.getD z12 (Int.toNat a2 + 0) (0 : UInt64) ^^^ List.getD z12 (Int.toNat a3 + 0) (0 : UInt64)) (-24 : Int))
  let z16 : Nat := List.length z15
  let z17 : Bool := decide (Int.toNat a1 + 0 < z16)
  let z18 : List UInt64 := List.set z15 (Int.toNat a1 + 0) (List.getD z15 (Int.toNat a1 + 0) (0 : UInt64) + (List.getD z15 (Int.toNat a2 + 0) (0 : UInt64) + a6))
  let z19 : Nat := List.length z18
  let z20 : Bool := decide (Int.toNat a4 + 0 < z19)
  let z21 : List UInt64 := List.set z18 (Int.toNat a4 + 0) (rotl (List.getD z18 (Int.toNat a4 + 0) (0 : UInt64) ^^^ List.getD z18 (Int.toNat a1 + 0) (0 : UInt64)) (-16 : Int))
  let z22 : Nat := List.length z21
  let z23 : Bool := decide (Int.toNat a3 + 0 < z22)
  let z24 : List UInt64 := List.set z21 (Int.toNat a3 + 0) (List.getD z21 (Int.toNat a3 + 0) (0 : UInt64) + List.getD z21 (Int.toNat a4 + 0) (0 : UInt64))
  let z25 : Nat := List.length z24
  let z26 : Bool := decide (Int.toNat a2 + 0 < z25)
  (gd [z0, z2, z3, decide (Int.toNat a2 + 0 < z1), z0, z2, z4, z7, z0, decide (Int.toNat a1 + 0 < z6), z4, z7, z8, z11, z4, decide (Int.toNat a4 + 0 < z10), z8, z11, z3, z14, z8, decide (Int.toNat a3 + 0 < z13), z3, z14, z0, z17, z3, decide (Int.toNat a2 + 0 < z16), z0, z17, z4, z20, z0, decide (Int.toNat a1 + 0 < z19), z4, z20, z8, z23, z4, decide (Int.toNat a4 + 0 < z22), z8, z23, z3, z26, z8, decide (Int.toNat a3 + 0 < z25), z3, z26] (.ok ⟨Wk, ((), (List.set z24 (Int.toNat a2 + 0) (rotl (List.getD z24 (Int.toNat a2 + 0) (0 : UInt64) ^^^ List.getD z24 (Int.toNat a3 + 0) (0 : UInt64)) (-63 : Int)), ()))⟩))
theorem atr (x : adr) (Q : pZ.Y → Prop) : wpf te yf au 1000 Try.f129 (pZ.inp.inj x).tm (pZ.inp.inj x).hp (fnK pZ aao Q) (fun _ _ => False) = (ajm (x.1.2.1) (x.1.2.2.1) (x.1.2.2.2.1) (x.1.2.2.2.2.1) (x.1.2.2.2.2.2.1) (x.1.2.2.2.2.2.2.1) (x.2.1)).wpR Q := by kernel_rfl
theorem ajl (pre : adr → Bool) (F : adr → OT pZ.Y) (hF : ∀ (x : adr) oy, pre x = true → (F x).run = some oy → (ajm (x.1.2.1) (x.1.2.2.1) (x.1.2.2.2.1) (x.1.2.2.2.2.1) (x.1.2.2.2.2.2.1) (x.1.2.2.2.2.2.2.1) (x.2.1)).run = some oy) : aa Try.prog 129 (pZ.aE pre F) :=
  az ak uM SY (f := 129) (fn := Try.f129) (c := aj Try.f129) (by kernel_rfl) (by kernel_rfl) (by kernel_rfl) (S := pZ) (k := 1) (by kernel_rfl) (fun R hR => ae) (n := 1000) (sel := aao) (fun v o h => by cases h; rfl) (pre := pre) (F := F) (T := fun x => ajm (x.1.2.1) (x.1.2.2.1) (x.1.2.2.2.1) (x.1.2.2.2.2.1) (x.1.2.2.2.2.2.1) (x.1.2.2.2.2.2.2.1) (x.2.1)) (fun x Q => atr x Q) hF
def wx (v : List UInt64) (a b c d : Nat) (x y : UInt64) : List UInt64 :=
  let v1 := v.set a (v.getD a 0 + (v.getD b 0 + x))
  let v2 := v1.set d (rotl (v1.getD d 0 ^^^ v1.getD a 0) (-32))
  let v3 := v2.set c (v2.getD c 0 + v2.getD d 0)
  let v4 := v3.set b (rotl (v3.getD b 0 ^^^ v3.getD c 0) (-24))
  let v5 := v4.set a (v4.getD a 0 + (v4.getD b 0 + y))
  let v6 := v5.set d (rotl (v5.getD d 0 ^^^ v5.getD a 0) (-16))
  let v7 := v6.set c (v6.getD c 0 + v6.getD d 0)
  v7.set b (rotl (v7.getD b 0 ^^^ v7.getD c 0) (-63))
theorem eT (v : List UInt64) (a b c d : Nat) (x y : UInt64) : (wx v a b c d x y).length = v.length := by
  simp only [wx, List.length_set]
def nU (x : adr) : Bool := inB x.1.2.1 16 && inB x.1.2.2.1 16 && inB x.1.2.2.2.1 16 && inB x.1.2.2.2.2.1 16 && decide (x.2.1.length = 16)
def aom (x : adr) : OT pZ.Y := .ok ⟨Wk, ((), (wx x.2.1 x.1.2.1.toNat x.1.2.2.1.toNat x.1.2.2.2.1.toNat x.1.2.2.2.2.1.toNat x.1.2.2.2.2.2.1 x.1.2.2.2.2.2.2.1, ()))⟩
theorem arQ : aa Try.prog 129 (pZ.aE nU aom) := ajl _ _ fun x oy hp ho => by
  rw [← ho]
  obtain ⟨⟨⟨⟩, a, b, c, d, x, y, ⟨⟩⟩, ⟨v, ⟨⟩⟩⟩ := x
  simp only [nU, Bool.and_eq_true, decide_eq_true_eq] at hp
  obtain ⟨⟨⟨⟨ha, hb⟩, hc⟩, hd⟩, hv⟩ := hp
  have na := sG ha
  have nb := sG hb
  have nc := sG hc
  have nd := sG hd
  refine (ah ?_).trans rfl
  simp only [List.length_set, hv, ha, hb, hc, hd, Nat.add_zero, na, nb, nc, nd, decide_true, List.all_cons, List.all_nil, Bool.and_self]
def Gf : bL := (pZ.aE nU aom)
theorem adq : aa Try.prog 129 Gf := arQ
theorem adp : aB Gf := ax
def S1 : Env := av 129 Gf yf
theorem Hx : aN Try.prog S1 := ag adq uM
theorem Hy : aq S1 := ab adp ye
theorem adN : aU Try.prog te S1 := aG follows ak Hx Hy
def Gn : ao := ⟨[.val false .int, .ptr 0 0 0, .ptr 1 0 0], [(0, .row .u64), (1, .cells [.val false .str])], false, 2, true⟩
abbrev ar9 : Type := ((Int) × (Unit) × (Unit) × Unit) × ((List (UInt64)) × ((List UInt8) × Unit) × Unit)
def ajE : ar := ⟨[.val false .u64], [(0, .row .u64), (1, .cells [.val false .str])], false⟩
def ajD : SV → Option ar := fun _ => some ajE
def arT (a0 : Int) (c0 : List (UInt64)) (c1_0 : List UInt8) : OT Gn.Y :=
  let z0 : Int := nib (List.getD c1_0 (Int.toNat a0) (0 : UInt8))
  (gd [inB a0 (List.length c1_0), inB z0 16, decide (Int.toNat z0 + 0 < List.length c0)] (.ok ⟨ajE, ((List.getD c0 (Int.toNat z0 + 0) (0 : UInt64), ()), (c0, ((c1_0, ()), ())))⟩))
theorem atY (x : ar9) (Q : Gn.Y → Prop) : wpf te S1 au 1000 Try.f127 (Gn.inp.inj x).tm (Gn.inp.inj x).hp (fnK Gn ajD Q) (fun _ _ => False) = (arT (x.1.1) (x.2.1) (x.2.2.1.1)).wpR Q := by kernel_rfl
theorem anG (pre : ar9 → Bool) (F : ar9 → OT Gn.Y) (hF : ∀ (x : ar9) oy, pre x = true → (F x).run = some oy → (arT (x.1.1) (x.2.1) (x.2.2.1.1)).run = some oy) : aa Try.prog 127 (Gn.aE pre F) :=
  az ak Hx adN (f := 127) (fn := Try.f127) (c := aj Try.f127) (by kernel_rfl) (by kernel_rfl) (by kernel_rfl) (S := Gn) (k := 2) (by kernel_rfl) (fun R hR => ae) (n := 1000) (sel := ajD) (fun v o h => by cases h; rfl) (pre := pre) (F := F) (T := fun x => arT (x.1.1) (x.2.1) (x.2.2.1.1)) (fun x Q => atY x Q) hF
def atF (m : List UInt64) (row : List UInt8) (i : Int) : UInt64 := m.getD (nib (row.getD i.toNat 0)).toNat 0
def nX (x : ar9) : Bool := inB x.1.1 x.2.2.1.1.length && inB (nib (x.2.2.1.1.getD x.1.1.toNat 0)) 16 && decide (x.2.1.length = 16)
def att (x : ar9) : OT Gn.Y := .ok ⟨ajE, ((atF x.2.1 x.2.2.1.1 x.1.1, ()), (x.2.1, ((x.2.2.1.1, ()), ())))⟩
theorem ats : aa Try.prog 127 (Gn.aE nX att) := anG _ _ fun x oy hp ho => by
  rw [← ho]
  obtain ⟨⟨i, ⟨⟩, ⟨⟩, ⟨⟩⟩, ⟨m, ⟨row, ⟨⟩⟩, ⟨⟩⟩⟩ := x
  simp only [nX, Bool.and_eq_true, decide_eq_true_eq] at hp
  obtain ⟨⟨h1, h2⟩, h3⟩ := hp
  have n2 := sG h2
  refine (ah ?_).trans rfl
  simp only [h1, h2, h3, Nat.add_zero, n2, decide_true, List.all_cons, List.all_nil, Bool.and_self]
def NJ : bL := (Gn.aE nX att)
theorem ajF : aa Try.prog 127 NJ := ats
theorem ajC : aB NJ := ax
def Ie : Env := av 127 NJ S1
theorem lu : aN Try.prog Ie := ag ajF Hx
theorem KT : aq Ie := ab ajC Hy
theorem mT : aU Try.prog te Ie := aG follows ak lu KT
def kz : ao := ⟨[.val true (.arr 8 .u64), .val true (.arr 128 .u8), .val false .u64, .val false .bool], [], true, 0, false⟩
abbrev KD : Type := ((List (UInt64)) × (List (UInt8)) × (UInt64) × (Bool) × Unit) × (Unit)
def wX : Shape := ⟨127, [(4, .ptr 0 0 0), (5, .ptr 1 0 0), (8, .ptr 2 0 0), (9, .ptr 3 0 0), (11, .ptr 4 0 0), (37, .val false .int)], [(0, .row .u64), (1, .row .u8), (2, .row .u64), (3, .row .u64), (4, .row .u64)], 0, true⟩
abbrev cv : Type := ((Unit) × (Unit) × (Unit) × (Unit) × (Unit) × (Int) × Unit) × ((List (UInt64)) × (List (UInt8)) × (List (UInt64)) × (List (UInt64)) × (List (UInt64)) × Unit)
def rW : Shape := ⟨127, [(4, .ptr 0 0 0), (8, .ptr 1 0 0), (9, .ptr 2 0 0), (11, .ptr 3 0 0)], [(0, .row .u64), (1, .row .u64), (2, .row .u64), (3, .row .u64)], 0, true⟩
abbrev ky : Type := ((Unit) × (Unit) × (Unit) × (Unit) × Unit) × ((List (UInt64)) × (List (UInt64)) × (List (UInt64)) × (List (UInt64)) × Unit)
def aaw : SE → Option Shape := iX [(0, rW)] none
def anE (a37 : Int) (c0 : List (UInt64)) (c1 : List (UInt8)) (c2 : List (UInt64)) (c3 : List (UInt64)) (c4 : List (UInt64)) : OT (Sum cv aJ) :=
  let z0 : Bool := inR ((8 : Int) * a37)
  let z1 : List UInt8 := List.take (Int.toNat ((8 : Int) * a37 + (8 : Int) - (8 : Int) * a37)) (List.drop (Int.toNat ((8 : Int) * a37)) c1)
  (.br (decide (a37 < (16 : Int)))
  (gd [z0, z0, inR ((8 : Int) * a37 + (8 : Int)), decide (128 ≤ List.length c1) && cH ((8 : Int) * a37) ((8 : Int) * a37 + (8 : Int)) 128, kq ((z1, ()), ()), inB a37 16, decide (Int.toNat a37 + 0 < List.length c4), inR (a37 + (1 : Int))] (.ok (.inl (((), ((), ((), ((), ((), (a37 + (1 : Int), ())))))), (c0, (c1, (c2, (c3, (List.set c4 (Int.toNat a37 + 0) (iY z1 (List.length z1)), ())))))))))
  (.ok (.inr ⟨(.exit 0, rW), (((), ((), ((), ((), ())))), (c0, (c2, (c3, (c4, ())))))⟩)))
def w7 (s : cv) : OT (Sum cv aJ) := anE (s.1.2.2.2.2.2.1) (s.2.1) (s.2.2.1) (s.2.2.2.1) (s.2.2.2.2.1) (s.2.2.2.2.2.1)
theorem ans (s : cv) (Q : Sum cv aJ → Prop) : wps te Ie au 1000 (bq (aj Try.f123) 0) (wX.inj s) (cE wX aaw (Q : Sum wX.T aJ → Prop)) = (w7 s).wpR Q := by kernel_rfl
def C4 (g0_0 : cv → ky) (s : cv) : OT aJ := (.ok ⟨(.exit 0, rW), g0_0 s⟩)
def wW : Shape := ⟨127, [(4, .ptr 0 0 0), (8, .ptr 1 0 0), (9, .ptr 2 0 0), (11, .ptr 3 0 0), (13, .ptr 4 0 0), (51, .val false .int)], [(0, .row .u64), (1, .row .u64), (2, .row .u64), (3, .row .u64), (4, .row .str)], 0, true⟩
abbrev cu : Type := ((Unit) × (Unit) × (Unit) × (Unit) × (Unit) × (Int) × Unit) × ((List (UInt64)) × (List (UInt64)) × (List (UInt64)) × (List (UInt64)) × (List (List UInt8)) × Unit)
def wV : Shape := ⟨127, [(4, .ptr 0 0 0), (8, .ptr 1 0 0), (9, .ptr 2 0 0), (11, .ptr 3 0 0), (13, .ptr 4 0 0), (16, .fn 127 [3, 5]), (51, .val false .int), (59, .val false .int)], [(0, .row .u64), (1, .row .u64), (2, .row .u64), (3, .row .u64), (4, .row .str), (5, .cells [.val false .str])], 0, true⟩
abbrev bK : Type := ((Unit) × (Unit) × (Unit) × (Unit) × (Unit) × (Unit) × (Int) × (Int) × Unit) × ((List (UInt64)) × (List (UInt64)) × (List (UInt64)) × (List (UInt64)) × (List (List UInt8)) × ((List UInt8) × Unit) × Unit)
def rU : Shape := ⟨127, [(4, .ptr 0 0 0), (8, .ptr 1 0 0), (9, .ptr 2 0 0), (11, .ptr 3 0 0), (13, .ptr 4 0 0), (16, .fn 127 [3, 5]), (51, .val false .int)], [(0, .row .u64), (1, .row .u64), (2, .row .u64), (3, .row .u64), (4, .row .str), (5, .cells [.val false .str])], 0, true⟩
abbrev eX : Type := ((Unit) × (Unit) × (Unit) × (Unit) × (Unit) × (Unit) × (Int) × Unit) × ((List (UInt64)) × (List (UInt64)) × (List (UInt64)) × (List (UInt64)) × (List (List UInt8)) × ((List UInt8) × Unit) × Unit)
def aau : SE → Option Shape := iX [(4, rU)] none
def anC (a51 : Int) (a59 : Int) (c0 : List (UInt64)) (c1 : List (UInt64)) (c2 : List (UInt64)) (c3 : List (UInt64)) (c4 : List (List UInt8)) (c5_0 : List UInt8) : OT (Sum bK aJ) :=
  let z0 : Bool := inR ((2 : Int) * a59)
  let z1 : PUnit × PUnit × PUnit := ((), (), ())
  let z2 : List UInt64 × (List UInt8 × PUnit) × PUnit := (c3, (c5_0, ()), ())
  let z3 : UInt64 := atF c3 c5_0 ((2 : Int) * a59)
  let z4 : UInt64 := atF c3 c5_0 ((2 : Int) * a59 + (1 : Int))
  (.br (decide (a59 < (4 : Int)))
  (gd [inR ((4 : Int) + a59), inR ((8 : Int) + a59), inR ((12 : Int) + a59), z0, nX (((2 : Int) * a59, z1), z2), z0, inR ((2 : Int) * a59 + (1 : Int)), nX (((2 : Int) * a59 + (1 : Int), z1), z2), nU (((), a59, (4 : Int) + a59, (8 : Int) + a59, (12 : Int) + a59, z3, z4, ()), c2, ()), inR (a59 + (1 : Int))] (.ok (.inl (((), ((), ((), ((), ((), ((), (a51, (a59 + (1 : Int), ())))))))), (c0, (c1, (wx c2 (Int.toNat a59) (Int.toNat ((4 : Int) + a59)) (Int.toNat ((8 : Int) + a59)) (Int.toNat ((12 : Int) + a59)) z3 z4, (c3, (c4, ((c5_0, ()), ()))))))))))
  (.ok (.inr ⟨(.exit 4, rU), (((), ((), ((), ((), ((), ((), (a51, ()))))))), (c0, (c1, (c2, (c3, (c4, ((c5_0, ()), ())))))))⟩)))
def w5 (s : bK) : OT (Sum bK aJ) := anC (s.1.2.2.2.2.2.2.1) (s.1.2.2.2.2.2.2.2.1) (s.2.1) (s.2.2.1) (s.2.2.2.1) (s.2.2.2.2.1) (s.2.2.2.2.2.1) (s.2.2.2.2.2.2.1.1)
theorem anq (s : bK) (Q : Sum bK aJ → Prop) : wps te Ie au 1000 (bq (bq (aj Try.f123) 2) 4) (wV.inj s) (cE wV aau (Q : Sum wV.T aJ → Prop)) = (w5 s).wpR Q := by kernel_rfl
def C2 (g4_4 : bK → eX) (s : bK) : OT aJ := (.ok ⟨(.exit 4, rU), g4_4 s⟩)
def wU : Shape := ⟨127, [(4, .ptr 0 0 0), (8, .ptr 1 0 0), (9, .ptr 2 0 0), (11, .ptr 3 0 0), (13, .ptr 4 0 0), (16, .fn 127 [3, 5]), (51, .val false .int), (80, .val false .int)], [(0, .row .u64), (1, .row .u64), (2, .row .u64), (3, .row .u64), (4, .row .str), (5, .cells [.val false .str])], 0, true⟩
abbrev bJ : Type := ((Unit) × (Unit) × (Unit) × (Unit) × (Unit) × (Unit) × (Int) × (Int) × Unit) × ((List (UInt64)) × (List (UInt64)) × (List (UInt64)) × (List (UInt64)) × (List (List UInt8)) × ((List UInt8) × Unit) × Unit)
def rT : Shape := ⟨127, [(4, .ptr 0 0 0), (8, .ptr 1 0 0), (9, .ptr 2 0 0), (11, .ptr 3 0 0), (13, .ptr 4 0 0), (51, .val false .int)], [(0, .row .u64), (1, .row .u64), (2, .row .u64), (3, .row .u64), (4, .row .str)], 0, true⟩
abbrev eW : Type := ((Unit) × (Unit) × (Unit) × (Unit) × (Unit) × (Int) × Unit) × ((List (UInt64)) × (List (UInt64)) × (List (UInt64)) × (List (UInt64)) × (List (List UInt8)) × Unit)
def aat : SE → Option Shape := iX [(6, rT)] none
def anB (a51 : Int) (a80 : Int) (c0 : List (UInt64)) (c1 : List (UInt64)) (c2 : List (UInt64)) (c3 : List (UInt64)) (c4 : List (List UInt8)) (c5_0 : List UInt8) : OT (Sum bJ aJ) :=
  let z0 : Bool := inR (a80 + (1 : Int))
  let z1 : Int := (4 : Int) + Int.tmod (a80 + (1 : Int)) (4 : Int)
  let z2 : Int := (8 : Int) + Int.tmod (a80 + (2 : Int)) (4 : Int)
  let z3 : Int := (12 : Int) + Int.tmod (a80 + (3 : Int)) (4 : Int)
  let z4 : Bool := inR ((2 : Int) * a80)
  let z5 : PUnit × PUnit × PUnit := ((), (), ())
  let z6 : List UInt64 × (List UInt8 × PUnit) × PUnit := (c3, (c5_0, ()), ())
  let z7 : UInt64 := atF c3 c5_0 ((8 : Int) + (2 : Int) * a80)
  let z8 : UInt64 := atF c3 c5_0 ((9 : Int) + (2 : Int) * a80)
  (.br (decide (a80 < (4 : Int)))
  (gd [z0, inR z1, inR (a80 + (2 : Int)), inR z2, inR (a80 + (3 : Int)), inR z3, z4, inR ((8 : Int) + (2 : Int) * a80), nX (((8 : Int) + (2 : Int) * a80, z5), z6), z4, inR ((9 : Int) + (2 : Int) * a80), nX (((9 : Int) + (2 : Int) * a80, z5), z6), nU (((), a80, z1, z2, z3, z7, z8, ()), c2, ()), z0] (.ok (.inl (((), ((), ((), ((), ((), ((), (a51, (a80 + (1 : Int), ())))))))), (c0, (c1, (wx c2 (Int.toNat a80) (Int.toNat z1) (Int.toNat z2) (Int.toNat z3) z7 z8, (c3, (c4, ((c5_0, ()), ()))))))))))
  (.ok (.inr ⟨(.exit 6, rT), (((), ((), ((), ((), ((), (a51, ())))))), (c0, (c1, (c2, (c3, (c4, ()))))))⟩)))
def wZ (s : bJ) : OT (Sum bJ aJ) := anB (s.1.2.2.2.2.2.2.1) (s.1.2.2.2.2.2.2.2.1) (s.2.1) (s.2.2.1) (s.2.2.2.1) (s.2.2.2.2.1) (s.2.2.2.2.2.1) (s.2.2.2.2.2.2.1.1)
theorem anp (s : bJ) (Q : Sum bJ aJ → Prop) : wps te Ie au 1000 (bq (bq (aj Try.f123) 2) 6) (wU.inj s) (cE wU aat (Q : Sum wU.T aJ → Prop)) = (wZ s).wpR Q := by kernel_rfl
def C1 (g6_6 : bJ → eW) (s : bJ) : OT aJ := (.ok ⟨(.exit 6, rT), g6_6 s⟩)
def rV : Shape := ⟨127, [(4, .ptr 0 0 0), (8, .ptr 1 0 0), (9, .ptr 2 0 0)], [(0, .row .u64), (1, .row .u64), (2, .row .u64)], 0, true⟩
abbrev kx : Type := ((Unit) × (Unit) × (Unit) × Unit) × ((List (UInt64)) × (List (UInt64)) × (List (UInt64)) × Unit)
def aav : SE → Option Shape := iX [(2, rV)] none
def anD (ok4 : bK → Bool) (g4_4 : bK → eX) (ok6 : bJ → Bool) (g6_6 : bJ → eW) (a51 : Int) (c0 : List (UInt64)) (c1 : List (UInt64)) (c2 : List (UInt64)) (c3 : List (UInt64)) (c4 : List (List UInt8)) : OT (Sum cu aJ) :=
  let z0 : Int := Int.tmod a51 (10 : Int)
  let z1 : (PUnit × PUnit × PUnit × PUnit × PUnit × PUnit × Int × Int × PUnit) × List UInt64 × List UInt64 × List UInt64 × List UInt64 × List (List UInt8) × (List UInt8 × PUnit) × PUnit := (((), (), (), (), (), (), a51, (0 : Int), ()), c0, c1, c2, c3, c4, (List.getD c4 (Int.toNat z0 + 0) [], ()), ())
  let z2 : (PUnit × PUnit × PUnit × PUnit × PUnit × PUnit × Int × PUnit) × List UInt64 × List UInt64 × List UInt64 × List UInt64 × List (List UInt8) × (List UInt8 × PUnit) × PUnit := g4_4 z1
  let z3 := z2.snd
  let z4 := z3.snd
  let z5 := z4.snd
  let z6 := z5.snd
  let z7 := z6.snd
  let z8 : (PUnit × PUnit × PUnit × PUnit × PUnit × PUnit × Int × Int × PUnit) × List UInt64 × List UInt64 × List UInt64 × List UInt64 × List (List UInt8) × (List UInt8 × PUnit) × PUnit := (((), (), (), (), (), (), z2.fst.snd.snd.snd.snd.snd.snd.fst, (0 : Int), ()), z3.fst, z4.fst, z5.fst, z6.fst, z7.fst, (z7.snd.fst.fst, ()), ())
  let z9 : (PUnit × PUnit × PUnit × PUnit × PUnit × Int × PUnit) × List UInt64 × List UInt64 × List UInt64 × List UInt64 × List (List UInt8) × PUnit := g6_6 z8
  let z10 := z9.snd
  let z11 := z10.snd
  let z12 := z11.snd
  let z13 := z12.snd
  (.br (decide (a51 < (12 : Int)))
  (gd [inB z0 10, decide (Int.toNat z0 + 0 < List.length c4), ok4 z1, ok6 z8, inR (z9.fst.snd.snd.snd.snd.snd.fst + (1 : Int))] (.ok (.inl (((), ((), ((), ((), ((), (z9.fst.snd.snd.snd.snd.snd.fst + (1 : Int), ())))))), (z10.fst, (z11.fst, (z12.fst, (z13.fst, (z13.snd.fst, ())))))))))
  (.ok (.inr ⟨(.exit 2, rV), (((), ((), ((), ()))), (c0, (c1, (c2, ()))))⟩)))
def w6 (ok4 : bK → Bool) (g4_4 : bK → eX) (ok6 : bJ → Bool) (g6_6 : bJ → eW) (s : cu) : OT (Sum cu aJ) := anD ok4 g4_4 ok6 g6_6 (s.1.2.2.2.2.2.1) (s.2.1) (s.2.2.1) (s.2.2.2.1) (s.2.2.2.2.1) (s.2.2.2.2.2.1)
theorem anr (ok4 : bK → Bool) (g4_4 : bK → eX) (ok6 : bJ → Bool) (g6_6 : bJ → eW) (s : cu) (Q : Sum cu aJ → Prop) : wps te Ie (bj 6 (cS wU 6 ok6 (C1 g6_6)) (bj 4 (cS wV 4 ok4 (C2 g4_4)) au)) 1000 (bq (aj Try.f123) 2) (wW.inj s) (cE wW aav (Q : Sum wW.T aJ → Prop)) = (w6 ok4 g4_4 ok6 g6_6 s).wpR Q := by kernel_rfl
def C3 (g2_2 : cu → kx) (s : cu) : OT aJ := (.ok ⟨(.exit 2, rV), g2_2 s⟩)
def wT : Shape := ⟨127, [(4, .ptr 0 0 0), (8, .ptr 1 0 0), (9, .ptr 2 0 0), (109, .val false .int)], [(0, .row .u64), (1, .row .u64), (2, .row .u64)], 0, true⟩
abbrev cr : Type := ((Unit) × (Unit) × (Unit) × (Int) × Unit) × ((List (UInt64)) × (List (UInt64)) × (List (UInt64)) × Unit)
def rS : Shape := ⟨127, [(4, .ptr 0 0 0), (8, .ptr 1 0 0)], [(0, .row .u64), (1, .row .u64)], 0, true⟩
abbrev kw : Type := ((Unit) × (Unit) × Unit) × ((List (UInt64)) × (List (UInt64)) × Unit)
def aas : SE → Option Shape := iX [(8, rS)] none
def anA (a109 : Int) (c0 : List (UInt64)) (c1 : List (UInt64)) (c2 : List (UInt64)) : OT (Sum cr aJ) :=
  let z0 : Bool := inB a109 8
  let z1 : Bool := decide (Int.toNat a109 + 0 < List.length c0)
  let z2 : Nat := List.length c2
  (.br (decide (a109 < (8 : Int)))
  (gd [z0, z1, inB a109 16, decide (Int.toNat a109 + 0 < z2), inR (a109 + (8 : Int)), inB (a109 + (8 : Int)) 16, decide (Int.toNat (a109 + (8 : Int)) + 0 < z2), z0, z1, inR (a109 + (1 : Int))] (.ok (.inl (((), ((), ((), (a109 + (1 : Int), ())))), (List.set c0 (Int.toNat a109 + 0) (List.getD c0 (Int.toNat a109 + 0) (0 : UInt64) ^^^ (List.getD c2 (Int.toNat a109 + 0) (0 : UInt64) ^^^ List.getD c2 (Int.toNat (a109 + (8 : Int)) + 0) (0 : UInt64))), (c1, (c2, ())))))))
  (.ok (.inr ⟨(.exit 8, rS), (((), ((), ())), (c0, (c1, ())))⟩)))
def wY (s : cr) : OT (Sum cr aJ) := anA (s.1.2.2.2.1) (s.2.1) (s.2.2.1) (s.2.2.2.1)
theorem ano (s : cr) (Q : Sum cr aJ → Prop) : wps te Ie au 1000 (bq (aj Try.f123) 8) (wT.inj s) (cE wT aas (Q : Sum wT.T aJ → Prop)) = (wY s).wpR Q := by kernel_rfl
def C0 (g8_8 : cr → kw) (s : cr) : OT aJ := (.ok ⟨(.exit 8, rS), g8_8 s⟩)
def CZ : ar := ⟨[.val true (.arr 8 .u64)], [], false⟩
def Sd : SV → Option ar := fun _ => some CZ
def Wy (ok0 : cv → Bool) (g0_0 : cv → ky) (ok4 : bK → Bool) (g4_4 : bK → eX) (ok6 : bJ → Bool) (g6_6 : bJ → eW) (ok2 : cu → Bool) (g2_2 : cu → kx) (ok8 : cr → Bool) (g8_8 : cr → kw) (a0 : List (UInt64)) (a1 : List (UInt8)) (a2 : UInt64) (a3 : Bool) : OT kz.Y :=
  let z0 : PUnit × PUnit × PUnit × PUnit × PUnit × Int × PUnit := ((), (), (), (), (), (0 : Int), ())
  let z1 : List UInt64 := tab a0 8 (0 : UInt64)
  let z2 : List UInt8 := tab a1 128 (0 : UInt8)
  let z3 : List UInt64 := [] ++ (List.take 8 z1 ++ List.drop (0 + min (List.length z1) 8) [(0 : UInt64), (0 : UInt64), (0 : UInt64), (0 : UInt64), (0 : UInt64), (0 : UInt64), (0 : UInt64), (0 : UInt64), (0 : UInt64), (0 : UInt64), (0 : UInt64), (0 : UInt64), (0 : UInt64), (0 : UInt64), (0 : UInt64), (0 : UInt64)])
  let z4 : List UInt64 := List.take 8 z3 ++ ([(7640891576956012808 : UInt64), (13503953896175478587 : UInt64), (4354685564936845355 : UInt64), (11912009170470909681 : UInt64), (5840696475078001361 : UInt64), (11170449401992604703 : UInt64), (2270897969802886507 : UInt64), (6620516959819538809 : UInt64)] ++ List.drop 16 z3)
  let z5 : List UInt64 := List.set z4 12 (List.getD z4 12 0 ^^^ a2)
  let z6 : List UInt64 × PUnit := ([(0 : UInt64), (0 : UInt64), (0 : UInt64), (0 : UInt64), (0 : UInt64), (0 : UInt64), (0 : UInt64), (0 : UInt64), (0 : UInt64), (0 : UInt64), (0 : UInt64), (0 : UInt64), (0 : UInt64), (0 : UInt64), (0 : UInt64), (0 : UInt64)], ())
  let z7 : (PUnit × PUnit × PUnit × PUnit × PUnit × Int × PUnit) × List UInt64 × List UInt8 × List UInt64 × List UInt64 × List UInt64 × PUnit := (z0, z1, z2, [(0 : UInt64), (0 : UInt64), (0 : UInt64), (0 : UInt64), (0 : UInt64), (0 : UInt64), (0 : UInt64), (0 : UInt64)], List.set z5 14 (~~~List.getD z5 14 0), z6)
  let z8 : PUnit × PUnit × PUnit × PUnit × PUnit × Int × PUnit := ((), (), (), (), (), (0 : Int), ())
  let z9 := (g0_0 z7).snd
  let z10 := z9.snd
  let z11 := z10.snd
  let z12 : List (List UInt8) × PUnit := ([List.getD fu 0 [], List.getD fu 1 [], List.getD fu 2 [], List.getD fu 3 [], List.getD fu 4 [], List.getD fu 5 [], List.getD fu 6 [], List.getD fu 7 [], List.getD fu 8 [], List.getD fu 9 []], ())
  let z13 : (PUnit × PUnit × PUnit × PUnit × PUnit × Int × PUnit) × List UInt64 × List UInt64 × List UInt64 × List UInt64 × List (List UInt8) × PUnit := (z8, z9.fst, z10.fst, z11.fst, z11.snd.fst, z12)
  let z14 : PUnit × PUnit × PUnit × Int × PUnit := ((), (), (), (0 : Int), ())
  let z15 := (g2_2 z13).snd
  let z16 := z15.snd
  let z17 : (PUnit × PUnit × PUnit × Int × PUnit) × List UInt64 × List UInt64 × List UInt64 × PUnit := (z14, z15.fst, z16.fst, z16.snd.fst, ())
  let z18 := (g8_8 z17).snd
  let z19 := z18.fst
  let z20 := z18.snd.fst
  let z21 : List UInt64 := lay z20 z19 8 (0 : UInt64)
  let z22 : (PUnit × PUnit × PUnit × PUnit × PUnit × Int × PUnit) × List UInt64 × List UInt8 × List UInt64 × List UInt64 × List UInt64 × PUnit := (z0, z1, z2, [(0 : UInt64), (0 : UInt64), (0 : UInt64), (0 : UInt64), (0 : UInt64), (0 : UInt64), (0 : UInt64), (0 : UInt64)], z5, z6)
  let z23 := (g0_0 z22).snd
  let z24 := z23.snd
  let z25 := z24.snd
  let z26 : (PUnit × PUnit × PUnit × PUnit × PUnit × Int × PUnit) × List UInt64 × List UInt64 × List UInt64 × List UInt64 × List (List UInt8) × PUnit := (z8, z23.fst, z24.fst, z25.fst, z25.snd.fst, z12)
  let z27 := (g2_2 z26).snd
  let z28 := z27.snd
  let z29 : (PUnit × PUnit × PUnit × Int × PUnit) × List UInt64 × List UInt64 × List UInt64 × PUnit := (z14, z27.fst, z28.fst, z28.snd.fst, ())
  let z30 := (g8_8 z29).snd
  let z31 := z30.fst
  let z32 := z30.snd.fst
  let z33 : List UInt64 := lay z32 z31 8 (0 : UInt64)
  (.br (a3)
  (gd [ok0 z7, ok2 z13, ok8 z17, decide (8 ≤ List.length z19), decide ((8 / 1 : Nat) + 0 ≤ List.length z20), decide (8 ≤ List.length z21)] (.ok ⟨CZ, ((tab z21 8 (0 : UInt64), ()), ())⟩))
  (gd [ok0 z22, ok2 z26, ok8 z29, decide (8 ≤ List.length z31), decide ((8 / 1 : Nat) + 0 ≤ List.length z32), decide (8 ≤ List.length z33)] (.ok ⟨CZ, ((tab z33 8 (0 : UInt64), ()), ())⟩)))
theorem arS (ok0 : cv → Bool) (g0_0 : cv → ky) (ok4 : bK → Bool) (g4_4 : bK → eX) (ok6 : bJ → Bool) (g6_6 : bJ → eW) (ok2 : cu → Bool) (g2_2 : cu → kx) (ok8 : cr → Bool) (g8_8 : cr → kw) (x : KD) (Q : kz.Y → Prop) : wpf te Ie (bj 8 (cS wT 8 ok8 (C0 g8_8)) (bj 2 (cS wW 2 ok2 (C3 g2_2)) (bj 0 (cS wX 0 ok0 (C4 g0_0)) au))) 1000 Try.f123 (kz.inp.inj x).tm (kz.inp.inj x).hp (fnK kz Sd Q) (fun _ _ => False) = (Wy ok0 g0_0 ok4 g4_4 ok6 g6_6 ok2 g2_2 ok8 g8_8 (x.1.1) (x.1.2.1) (x.1.2.2.1) (x.1.2.2.2.1)).wpR Q := by kernel_rfl
theorem adu (ok0 : cv → Bool) (g0_0 : cv → ky) (ok4 : bK → Bool) (g4_4 : bK → eX) (ok6 : bJ → Bool) (g6_6 : bJ → eW) (ok2 : cu → Bool) (g2_2 : cu → kx) (ok8 : cr → Bool) (g8_8 : cr → kw) (h0 : ∀ s : cv, ok0 s = true → ∃ m e, ay (w7) m s = some e ∧ (C4 g0_0 s).run = some e) (h4 : ∀ s : bK, ok4 s = true → ∃ m e, ay (w5) m s = some e ∧ (C2 g4_4 s).run = some e) (h6 : ∀ s : bJ, ok6 s = true → ∃ m e, ay (wZ) m s = some e ∧ (C1 g6_6 s).run = some e) (h2 : ∀ s : cu, ok2 s = true → ∃ m e, ay (w6 ok4 g4_4 ok6 g6_6) m s = some e ∧ (C3 g2_2 s).run = some e) (h8 : ∀ s : cr, ok8 s = true → ∃ m e, ay (wY) m s = some e ∧ (C0 g8_8 s).run = some e) (pre : KD → Bool) (F : KD → OT kz.Y) (hF : ∀ (x : KD) oy, pre x = true → (F x).run = some oy → (Wy ok0 g0_0 ok4 g4_4 ok6 g6_6 ok2 g2_2 ok8 g8_8 (x.1.1) (x.1.2.1) (x.1.2.2.1) (x.1.2.2.2.1)).run = some oy) : aa Try.prog 123 (kz.aE pre F) :=
  az ak lu mT (f := 123) (fn := Try.f123) (c := aj Try.f123) (by kernel_rfl) (by kernel_rfl) (by kernel_rfl) (S := kz) (k := 0) (by kernel_rfl) (fun R hR => (aH (c := (aj Try.f123)) (by kernel_rfl) (id := 8) (by kernel_rfl) (bg ak lu mT (sh := wT) hR (xs := aas) (aF (by kernel_rfl) (by kernel_rfl) hR) aS ae (n := 1000) (T := wY) (fun s Q => ano s Q) (ok := ok8) (f := C0 g8_8) h8) (aH (c := (aj Try.f123)) (by kernel_rfl) (id := 2) (by kernel_rfl) (bg ak lu mT (sh := wW) hR (xs := aav) (aF (by kernel_rfl) (by kernel_rfl) hR) aS (aH (c := (bq (aj Try.f123) 2)) (by kernel_rfl) (id := 6) (by kernel_rfl) (bg ak lu mT (sh := wU) hR (xs := aat) (aF (by kernel_rfl) (by kernel_rfl) hR) aS ae (n := 1000) (T := wZ) (fun s Q => anp s Q) (ok := ok6) (f := C1 g6_6) h6) (aH (c := (bq (aj Try.f123) 2)) (by kernel_rfl) (id := 4) (by kernel_rfl) (bg ak lu mT (sh := wV) hR (xs := aau) (aF (by kernel_rfl) (by kernel_rfl) hR) aS ae (n := 1000) (T := w5) (fun s Q => anq s Q) (ok := ok4) (f := C2 g4_4) h4) ae)) (n := 1000) (T := w6 ok4 g4_4 ok6 g6_6) (fun s Q => anr ok4 g4_4 ok6 g6_6 s Q) (ok := ok2) (f := C3 g2_2) h2) (aH (c := (aj Try.f123)) (by kernel_rfl) (id := 0) (by kernel_rfl) (bg ak lu mT (sh := wX) hR (xs := aaw) (aF (by kernel_rfl) (by kernel_rfl) hR) aS ae (n := 1000) (T := w7) (fun s Q => ans s Q) (ok := ok0) (f := C4 g0_0) h0) ae)))) (n := 1000) (sel := Sd) (fun v o h => by cases h; rfl) (pre := pre) (F := F) (T := fun x => Wy ok0 g0_0 ok4 g4_4 ok6 g6_6 ok2 g2_2 ok8 g8_8 (x.1.1) (x.1.2.1) (x.1.2.2.1) (x.1.2.2.2.1)) (fun x Q => arS ok0 g0_0 ok4 g4_4 ok6 g6_6 ok2 g2_2 ok8 g8_8 x Q) hF
def ad5 (b : List UInt8) (i : Nat) : UInt64 := iY ((b.drop (8 * i)).take 8) 8
def mW (b : List UInt8) : List UInt64 := upto (fun k m => m.set k (ad5 b k)) (List.replicate 16 0) 16
def Lt (row : List UInt8) : Bool := decide (row.length = 16) && (List.range 16).all fun i => inB (nib (row.getD i 0)) 16
theorem afW {row : List UInt8} (h : Lt row = true) {i : Nat} (hi : i < 16) : inB (nib (row.getD i 0)) 16 = true := by
  simp only [Lt, Bool.and_eq_true, List.all_eq_true] at h
  exact h.2 i (by simpa using hi)
theorem rX {m : List UInt64} {row : List UInt8} (hm : m.length = 16) (hr : Lt row = true) {i : Int} (h0 : 0 ≤ i) (h1 : i < 16) (u : Unit × Unit × Unit) (u2 : Unit) (u3 : Unit) : nX ((i, u), (m, ((row, u2), u3))) = true := by
  have hl : row.length = 16 := by
    simp only [Lt, Bool.and_eq_true, decide_eq_true_eq] at hr
    exact hr.1
  have := afW hr (i := i.toNat) (by omega)
  simp only [nX, Bool.and_eq_true, decide_eq_true_eq]
  exact ⟨⟨aI (by omega), this⟩, hm⟩
theorem Gg {v : List UInt64} (hv : v.length = 16) {a b c d : Int} (ha : 0 ≤ a ∧ a < 16) (hb : 0 ≤ b ∧ b < 16) (hc : 0 ≤ c ∧ c < 16) (hd : 0 ≤ d ∧ d < 16) (x y : UInt64) (u1 u2 u3 : Unit) : nU ((u1, a, b, c, d, x, y, u2), (v, u3)) = true := by
  simp only [nU, Bool.and_eq_true, decide_eq_true_eq]
  exact ⟨⟨⟨⟨aI ha, aI hb⟩, aI hc⟩, aI hd⟩, hv⟩
def Gm (s : cv) : Bool := decide (s.1.2.2.2.2.2.1 = 0 ∧ s.2.2.1.length = 128 ∧ s.2.2.2.2.2.1 = List.replicate 16 0)
def rR (s : cv) : ky := (((), (), (), (), ()), (s.2.1, s.2.2.2.1, s.2.2.2.2.1, mW s.2.2.1, ()))
theorem anz : ∀ s : cv, Gm s = true → ∃ m e, ay w7 m s = some e ∧ (C4 rR s).run = some e := by
  rintro ⟨⟨⟨⟩, ⟨⟩, ⟨⟩, ⟨⟩, ⟨⟩, i, ⟨⟩⟩, ⟨c0, c1, c2, c3, c4, ⟨⟩⟩⟩ h
  have h' := of_decide_eq_true h
  dsimp only at h'
  obtain ⟨rfl, hl, rfl⟩ := h'
  have := (aT (T := w7) (fun k m => ((((), (), (), (), (), (k : Int), ()), (c0, c1, c2, c3, m, ())) : cv)) (fun k m => m.set k (ad5 c1 k))
    (fun m => (⟨(.exit 0, rW), (((), (), (), (), ()), (c0, c2, c3, m, ()))⟩ : aJ)) 16 (List.replicate 16 0) (fun _ m => m.length = 16) (by simp) (fun k m hk hm => ⟨?_, by rw [List.length_set]; exact hm⟩) (fun m hm => ?_)).1
  · obtain ⟨n, hn⟩ := this
    exact ⟨n, _, hn, rfl⟩
  · have e1 : (8 * (k : Int) + 8 - 8 * (k : Int)).toNat = 8 := by omega
    have e2 : (8 * (k : Int)).toNat = 8 * k := by omega
    have hw : ((c1.drop (8 * k)).take 8).length = 8 := by simp; omega
    refine (OT.aw (decide_eq_true (by dsimp only; omega))).trans ((ah ?_).trans ?_)
    · simp only [e1, e2, hl, hm, List.all_cons, List.all_nil, Bool.and_true, Bool.and_eq_true]
      refine ⟨aK (by omega), aK (by omega), aK (by omega), ⟨by decide, dq (by omega)⟩, ?_, aI (by omega), decide_eq_true (by omega), aK (by omega)⟩
      simp only [kq, hw]
      decide
    · simp only [OT.cn, e1, e2, hw, Nat.add_zero]
      rfl
  · exact OT.al (decide_eq_false (by dsimp only; omega))
def QP (m : List UInt64) (row : List UInt8) (v : List UInt64) : List UInt64 := upto (fun k v => wx v k (4 + k) (8 + k) (12 + k) (atF m row (2 * (k : Int))) (atF m row (2 * (k : Int) + 1))) v 4
def QO (m : List UInt64) (row : List UInt8) (v : List UInt64) : List UInt64 := upto (fun k v => wx v k (4 + (k + 1) % 4) (8 + (k + 2) % 4) (12 + (k + 3) % 4) (atF m row (8 + 2 * (k : Int))) (atF m row (9 + 2 * (k : Int)))) v 4
theorem k7 (m : List UInt64) (row : List UInt8) (v : List UInt64) : (QP m row v).length = v.length := by simp only [QP, upto, eT]
theorem pu (m : List UInt64) (row : List UInt8) (v : List UInt64) : (QO m row v).length = v.length := by simp only [QO, upto, eT]
def mG (s : bK) : Bool := decide (s.1.2.2.2.2.2.2.2.1 = 0 ∧ s.2.2.2.1.length = 16 ∧ s.2.2.2.2.1.length = 16) && Lt s.2.2.2.2.2.2.1.1
def nW (s : bK) : eX := (((), (), (), (), (), (), s.1.2.2.2.2.2.2.1, ()), (s.2.1, s.2.2.1, QP s.2.2.2.2.1 s.2.2.2.2.2.2.1.1 s.2.2.2.1, s.2.2.2.2.1, s.2.2.2.2.2.1, (s.2.2.2.2.2.2.1.1, ()), ()))
theorem anw : ∀ s : bK, mG s = true → ∃ m e, ay w5 m s = some e ∧ (C2 nW s).run = some e := by
  rintro ⟨⟨⟨⟩, ⟨⟩, ⟨⟩, ⟨⟩, ⟨⟩, ⟨⟩, r, i, ⟨⟩⟩, ⟨c0, c1, v, m, c4, ⟨row, ⟨⟩⟩, ⟨⟩⟩⟩ h
  simp only [mG, Bool.and_eq_true, decide_eq_true_eq] at h
  obtain ⟨⟨rfl, hv, hm⟩, hr⟩ := h
  have := (aT (T := w5) (fun k v => ((((), (), (), (), (), (), r, (k : Int), ()), (c0, c1, v, m, c4, (row, ()), ())) : bK)) (fun k v => wx v k (4 + k) (8 + k) (12 + k) (atF m row (2 * (k : Int))) (atF m row (2 * (k : Int) + 1)))
    (fun v => (⟨(.exit 4, rU), (((), (), (), (), (), (), r, ()), (c0, c1, v, m, c4, (row, ()), ()))⟩ : aJ)) 4 v (fun _ v => v.length = 16) hv (fun k v hk hv => ⟨?_, by rw [eT]; exact hv⟩) (fun v hv => ?_)).1
  · obtain ⟨n, hn⟩ := this
    exact ⟨n, _, hn, rfl⟩
  · have e1 : (4 + (k : Int)).toNat = 4 + k := by omega
    have e2 : (8 + (k : Int)).toNat = 8 + k := by omega
    have e3 : (12 + (k : Int)).toNat = 12 + k := by omega
    refine (OT.aw (decide_eq_true (by dsimp only; omega))).trans ((ah ?_).trans ?_)
    · simp only [List.all_cons, List.all_nil, Bool.and_true, Bool.and_eq_true]
      exact ⟨aK (by omega), aK (by omega), aK (by omega), aK (by omega), rX hm hr (by omega) (by omega) _ _ _, aK (by omega), aK (by omega), rX hm hr (by omega) (by omega) _ _ _, Gg hv (by omega) (by omega) (by omega) (by omega) _ _ _ _ _, aK (by omega)⟩
    · simp only [OT.cn, e1, e2, e3]
      rfl
  · exact OT.al (decide_eq_false (by dsimp only; omega))
def mF (s : bJ) : Bool := decide (s.1.2.2.2.2.2.2.2.1 = 0 ∧ s.2.2.2.1.length = 16 ∧ s.2.2.2.2.1.length = 16) && Lt s.2.2.2.2.2.2.1.1
def rP (s : bJ) : eW := (((), (), (), (), (), s.1.2.2.2.2.2.2.1, ()), (s.2.1, s.2.2.1, QO s.2.2.2.2.1 s.2.2.2.2.2.2.1.1 s.2.2.2.1, s.2.2.2.2.1, s.2.2.2.2.2.1, ()))
theorem anv : ∀ s : bJ, mF s = true → ∃ m e, ay wZ m s = some e ∧ (C1 rP s).run = some e := by
  rintro ⟨⟨⟨⟩, ⟨⟩, ⟨⟩, ⟨⟩, ⟨⟩, ⟨⟩, r, i, ⟨⟩⟩, ⟨c0, c1, v, m, c4, ⟨row, ⟨⟩⟩, ⟨⟩⟩⟩ h
  simp only [mF, Bool.and_eq_true, decide_eq_true_eq] at h
  obtain ⟨⟨rfl, hv, hm⟩, hr⟩ := h
  have := (aT (T := wZ) (fun k v => ((((), (), (), (), (), (), r, (k : Int), ()), (c0, c1, v, m, c4, (row, ()), ())) : bJ)) (fun k v => wx v k (4 + (k + 1) % 4) (8 + (k + 2) % 4) (12 + (k + 3) % 4) (atF m row (8 + 2 * (k : Int))) (atF m row (9 + 2 * (k : Int))))
    (fun v => (⟨(.exit 6, rT), (((), (), (), (), (), r, ()), (c0, c1, v, m, c4, ()))⟩ : aJ)) 4 v (fun _ v => v.length = 16) hv (fun k v hk hv => ⟨?_, by rw [eT]; exact hv⟩) (fun v hv => ?_)).1
  · obtain ⟨n, hn⟩ := this
    exact ⟨n, _, hn, rfl⟩
  · have t1 : Int.tmod ((k : Int) + 1) 4 = (((k + 1) % 4 : Nat) : Int) := by rw [Int.tmod_eq_emod_of_nonneg (by omega)]; omega
    have t2 : Int.tmod ((k : Int) + 2) 4 = (((k + 2) % 4 : Nat) : Int) := by rw [Int.tmod_eq_emod_of_nonneg (by omega)]; omega
    have t3 : Int.tmod ((k : Int) + 3) 4 = (((k + 3) % 4 : Nat) : Int) := by rw [Int.tmod_eq_emod_of_nonneg (by omega)]; omega
    have e1 : (4 + (((k + 1) % 4 : Nat) : Int)).toNat = 4 + (k + 1) % 4 := by omega
    have e2 : (8 + (((k + 2) % 4 : Nat) : Int)).toNat = 8 + (k + 2) % 4 := by omega
    have e3 : (12 + (((k + 3) % 4 : Nat) : Int)).toNat = 12 + (k + 3) % 4 := by omega
    refine (OT.aw (decide_eq_true (by dsimp only; omega))).trans ((ah ?_).trans ?_)
    · simp only [t1, t2, t3, List.all_cons, List.all_nil, Bool.and_true, Bool.and_eq_true]
      exact ⟨aK (by omega), aK (by omega), aK (by omega), aK (by omega), aK (by omega), aK (by omega), aK (by omega), aK (by omega), rX hm hr (by omega) (by omega) _ _ _, aK (by omega), aK (by omega), rX hm hr (by omega) (by omega) _ _ _, Gg hv (by omega) (by omega) (by omega) (by omega) _ _ _ _ _, aK (by omega)⟩
    · simp only [OT.cn, t1, t2, t3, e1, e2, e3]
      rfl
  · exact OT.al (decide_eq_false (by dsimp only; omega))
def rowAt (k : Nat) : List UInt8 := fu.getD (k % 10) []
theorem alS (k : Nat) : Lt (rowAt k) = true := by
  have : k % 10 < 10 := Nat.mod_lt _ (by decide)
  unfold rowAt
  generalize k % 10 = j at this
  have h : ∀ j : Fin 10, Lt (fu.getD j.val []) = true := by decide +kernel
  exact h ⟨j, this⟩
def ja (m : List UInt64) (v : List UInt64) : List UInt64 := upto (fun k v => QO m (rowAt k) (QP m (rowAt k) v)) v 12
theorem jE {f : Nat → List UInt64 → List UInt64} (hf : ∀ k v, (f k v).length = v.length) (v : List UInt64) : ∀ n, (upto f v n).length = v.length
  | 0 => rfl
  | n + 1 => by simp only [upto, hf, jE hf v n]
def Gl (s : cu) : Bool := decide (s.1.2.2.2.2.2.1 = 0 ∧ s.2.2.2.1.length = 16 ∧ s.2.2.2.2.1.length = 16 ∧ s.2.2.2.2.2.1 = fu)
def rQ (s : cu) : kx := (((), (), (), ()), (s.2.1, s.2.2.1, ja s.2.2.2.2.1 s.2.2.2.1, ()))
theorem anx : ∀ s : cu, Gl s = true → ∃ m e, ay (w6 mG nW mF rP) m s = some e ∧ (C3 rQ s).run = some e := by
  rintro ⟨⟨⟨⟩, ⟨⟩, ⟨⟩, ⟨⟩, ⟨⟩, i, ⟨⟩⟩, ⟨c0, c1, v, m, c4, ⟨⟩⟩⟩ h
  have h' := of_decide_eq_true h
  dsimp only at h'
  obtain ⟨rfl, hv, hm, rfl⟩ := h'
  have := (aT (T := w6 mG nW mF rP) (fun k v => ((((), (), (), (), (), (k : Int), ()), (c0, c1, v, m, fu, ())) : cu)) (fun k v => QO m (rowAt k) (QP m (rowAt k) v))
    (fun v => (⟨(.exit 2, rV), (((), (), (), ()), (c0, c1, v, ()))⟩ : aJ)) 12 v (fun _ v => v.length = 16) hv (fun k v hk hv => ⟨?_, by rw [pu, k7]; exact hv⟩) (fun v hv => ?_)).1
  · obtain ⟨n, hn⟩ := this
    exact ⟨n, _, hn, rfl⟩
  · have t1 : Int.tmod (k : Int) 10 = ((k % 10 : Nat) : Int) := by rw [Int.tmod_eq_emod_of_nonneg (by omega)]; omega
    have e1 : ((k % 10 : Nat) : Int).toNat = k % 10 := by omega
    have hr : Lt (fu.getD (k % 10) []) = true := alS k
    refine (OT.aw (decide_eq_true (by dsimp only; omega))).trans ((ah ?_).trans ?_)
    · simp only [t1, e1, List.all_cons, List.all_nil, Bool.and_true, Bool.and_eq_true]
      refine ⟨aI (by omega), decide_eq_true (show k % 10 + 0 < 10 by omega), ?_, ?_, ?_⟩
      · simp only [mG, Bool.and_eq_true, decide_eq_true_eq]
        exact ⟨⟨trivial, hv, hm⟩, hr⟩
      · simp only [mF, nW, Bool.and_eq_true, decide_eq_true_eq]
        exact ⟨⟨trivial, by rw [k7]; exact hv, hm⟩, hr⟩
      · exact aK (by simp only [rP, nW]; omega)
    · have hrow : fu.getD (k % 10) [] = rowAt k := rfl
      simp only [OT.cn, t1, e1, Nat.add_zero, rP, nW, hrow]
      rfl
  · exact OT.al (decide_eq_false (by dsimp only; omega))
def EO (h v : List UInt64) : List UInt64 := upto (fun k h => h.set k (h.getD k 0 ^^^ (v.getD k 0 ^^^ v.getD (k + 8) 0))) h 8
def Gk (s : cr) : Bool := decide (s.1.2.2.2.1 = 0 ∧ s.2.1.length = 8 ∧ s.2.2.2.1.length = 16)
def rO (s : cr) : kw := (((), (), ()), (EO s.2.1 s.2.2.2.1, s.2.2.1, ()))
theorem anu : ∀ s : cr, Gk s = true → ∃ m e, ay wY m s = some e ∧ (C0 rO s).run = some e := by
  rintro ⟨⟨⟨⟩, ⟨⟩, ⟨⟩, i, ⟨⟩⟩, ⟨h, c1, v, ⟨⟩⟩⟩ hh
  have h' := of_decide_eq_true hh
  dsimp only at h'
  obtain ⟨rfl, hl, hv⟩ := h'
  have := (aT (T := wY) (fun k h => ((((), (), (), (k : Int), ()), (h, c1, v, ())) : cr)) (fun k h => h.set k (h.getD k 0 ^^^ (v.getD k 0 ^^^ v.getD (k + 8) 0)))
    (fun h => (⟨(.exit 8, rS), (((), (), ()), (h, c1, ()))⟩ : aJ)) 8 h (fun _ h => h.length = 8) hl (fun k h hk hl => ⟨?_, by rw [List.length_set]; exact hl⟩) (fun h hl => ?_)).1
  · obtain ⟨n, hn⟩ := this
    exact ⟨n, _, hn, rfl⟩
  · have e1 : ((k : Int) + 8).toNat = k + 8 := by omega
    refine (OT.aw (decide_eq_true (by dsimp only; omega))).trans ((ah ?_).trans ?_)
    · simp only [e1, hl, hv, List.all_cons, List.all_nil, Bool.and_true, Bool.and_eq_true]
      exact ⟨aI (by omega), decide_eq_true (by omega), aI (by omega), decide_eq_true (by omega), aK (by omega), aI (by omega), decide_eq_true (by omega), aI (by omega), decide_eq_true (by omega), aK (by omega)⟩
    · simp only [OT.cn, e1, Nat.add_zero]
      rfl
  · exact OT.al (decide_eq_false (by dsimp only; omega))
def om (h : List UInt64) (count : UInt64) (last : Bool) : List UInt64 :=
  let v := (h ++ bIV).set 12 ((h ++ bIV).getD 12 0 ^^^ count)
  cond last (v.set 14 (~~~v.getD 14 0)) v
def ss (h : List UInt64) (b : List UInt8) (count : UInt64) (last : Bool) : List UInt64 := EO h (ja (mW b) (om h count last))
theorem HG (b : List UInt8) : (mW b).length = 16 := by
  unfold mW; rw [jE (fun k v => List.length_set)]; rfl
theorem oI (m v : List UInt64) : (ja m v).length = v.length := jE (fun k v => by rw [pu, k7]) v 12
theorem jf (h v : List UInt64) : (EO h v).length = h.length := jE (fun k v => List.length_set) h 8
theorem BH {b : List UInt8} {c0 c2 c3 : List UInt64} (hb : b.length = 128) : Gm (((), (), (), (), (), 0, ()), (c0, b, c2, c3, [0, 0, 0, 0, 0, 0, 0, 0, 0, 0, 0, 0, 0, 0, 0, 0], ())) = true := decide_eq_true ⟨rfl, hb, rfl⟩
theorem BG {c0 c1 v m : List UInt64} (hv : v.length = 16) (hm : m.length = 16) : Gl (((), (), (), (), (), 0, ()), (c0, c1, v, m, fu, ())) = true := decide_eq_true ⟨rfl, hv, hm, rfl⟩
theorem BF {c0 c1 v : List UInt64} (h0 : c0.length = 8) (hv : v.length = 16) : Gk (((), (), (), 0, ()), (c0, c1, v, ())) = true := decide_eq_true ⟨rfl, h0, hv⟩
def Gj (x : KD) : Bool := decide (x.1.1.length = 8 ∧ x.1.2.1.length = 128)
def ajz (x : KD) : OT kz.Y := .ok ⟨CZ, ((ss x.1.1 x.1.2.1 x.1.2.2.1 x.1.2.2.2.1, ()), ())⟩
theorem ant : aa Try.prog 123 (kz.aE Gj ajz) := adu Gm rR mG nW mF rP Gl rQ Gk rO anz anw anv anx anu _ _ fun x oy hp ho => by
  rw [← ho]
  obtain ⟨⟨h, b, count, last, ⟨⟩⟩, ⟨⟩⟩ := x
  simp only [Gj, decide_eq_true_eq] at hp
  obtain ⟨hh, hb⟩ := hp
  have t1 : tab h 8 0 = h := gV hh
  have t2 : tab b 128 0 = b := gV hb
  have t3 : tab fu 10 [] = fu := gV rfl
  have v1 : [] ++ (List.take 8 h ++ List.drop (0 + min h.length 8) [(0 : UInt64), 0, 0, 0, 0, 0, 0, 0, 0, 0, 0, 0, 0, 0, 0, 0]) = h ++ List.replicate 8 0 := by
    rw [hh, List.nil_append, List.take_of_length_le (by omega)]; rfl
  have v2 : List.take 8 (h ++ List.replicate 8 (0 : UInt64)) ++ (bIV ++ List.drop 16 (h ++ List.replicate 8 (0 : UInt64))) = h ++ bIV := by
    rw [List.take_append_of_le_length (by omega), List.take_of_length_le (by omega), List.drop_eq_nil_of_le (by simp; omega), List.append_nil]
  have hv : ∀ c l, (om h c l).length = 16 := fun c l => by
    unfold om
    cases l <;> simp [hh] <;> rfl
  have hm : (mW b).length = 16 := HG b
  have hr : ∀ c l, (ja (mW b) (om h c l)).length = 16 := fun c l => by rw [oI]; exact hv c l
  have hM : ∀ c l, (ss h b c l).length = 8 := fun c l => by unfold ss; rw [jf]; exact hh
  have e8 : [(7640891576956012808 : UInt64), 13503953896175478587, 4354685564936845355, 11912009170470909681, 5840696475078001361, 11170449401992604703, 2270897969802886507, 6620516959819538809] = bIV := rfl
  have key : ∀ M : List UInt64, M.length = 8 → tab (lay [(0 : UInt64), 0, 0, 0, 0, 0, 0, 0] M 8 0) 8 0 = M := fun M hM => by rw [sE (n := 8) rfl hM, gV hM]
  have l1 : List.set (h ++ bIV) 12 ((h ++ bIV).getD 12 0 ^^^ count) = om h count false := rfl
  have l2 : List.set (om h count false) 14 (~~~(om h count false).getD 14 0) = om h count true := rfl
  have l3 : ∀ c l, EO h (ja (mW b) (om h c l)) = ss h b c l := fun _ _ => rfl
  cases last
  · refine (OT.al rfl).trans ((ah ?_).trans ?_)
    · simp only [t1, t2, t3, v1, List.all_cons, List.all_nil, Bool.and_true, Bool.and_eq_true]
      rw [e8]
      simp only [v2, rR, rQ, rO, l1, l3, fh, hM]
      exact ⟨BH hb, BG (hv _ _) hm, BF hh (hr _ _), rfl, rfl, rfl⟩
    · simp only [t1, t2, t3, v1]
      rw [e8]
      simp only [v2, rR, rQ, rO, l1, l3]
      rw [key _ (hM _ _)]
      rfl
  · refine (OT.aw rfl).trans ((ah ?_).trans ?_)
    · simp only [t1, t2, t3, v1, List.all_cons, List.all_nil, Bool.and_true, Bool.and_eq_true]
      rw [e8]
      simp only [v2, rR, rQ, rO, l1, l2, l3, fh, hM]
      exact ⟨BH hb, BG (hv _ _) hm, BF hh (hr _ _), rfl, rfl, rfl⟩
    · simp only [t1, t2, t3, v1]
      rw [e8]
      simp only [v2, rR, rQ, rO, l1, l2, l3]
      rw [key _ (hM _ _)]
      rfl
def Ar : bL := (kz.aE Gj ajz)
theorem Wx : aa Try.prog 123 Ar := ant
theorem Ww : aB Ar := ax
def Hz : Env := av 123 Ar Ie
theorem A4 : aN Try.prog Hz := ag Wx lu
theorem Cm : aq Hz := ab Ww KT
theorem W7 : aU Try.prog te Hz := aG follows ak A4 Cm
def gT : ao := ⟨[.val false (.list .u8)], [], true, 0, false⟩
abbrev Wz : Type := ((List (UInt8)) × Unit) × (Unit)
def qd : ar := ⟨[.own 0], [(0, .row .u8)], false⟩
def KE : SV → Option ar := fun _ => some qd
def NI (a0 : List (UInt8)) : OT gT.Y :=
  (gd [decide (((0 : Nat) + List.length a0) * (1 : Nat) ≤ (140737488355328 : Nat))] (.ok ⟨qd, (((), ()), ([] ++ a0, ()))⟩))
def ajB : OT gT.Y := .ok ⟨qd, (((), ()), ([], ()))⟩
theorem anF (x : Wz) (Q : gT.Y → Prop) : wpf te Hz au 1000 Try.f38 (gT.inp.inj x).tm (gT.inp.inj x).hp (fnK gT KE Q) (fun _ _ => False) =
    Bool.rec (motive := fun _ => Prop) ((NI x.1.1).wpR Q) (ajB.wpR Q ∧ (NI x.1.1).wpR Q) (List.isEmpty x.1.1) := by kernel_rfl
def ij (x : Wz) : Bool := decide (x.1.1.length ≤ 140737488355328)
def aax (x : Wz) : OT gT.Y := .ok ⟨qd, (((), ()), (x.1.1, ()))⟩
theorem ajA : aa Try.prog 38 (gT.aE ij aax) := by
  refine amR ak A4 W7 (f := 38) (fn := Try.f38) (c := aj Try.f38) (by kernel_rfl) (by kernel_rfl) (by kernel_rfl) (S := gT) (k := 0) (by kernel_rfl) (Λ := au) (fun R hR => ae) (n := 1000) fun x oy hp hr => ⟨fnK gT KE (fun z => z = oy), fun _ _ => False, ?_, fun v hp hq => ?_, fun _ _ hq => hq.elim⟩
  · refine (anF x _).mpr ?_
    cases hr
    have hp' : x.1.1.length ≤ 140737488355328 := of_decide_eq_true hp
    have h1 : (NI x.1.1).wpR (fun z => z = ⟨qd, (((), ()), (x.1.1, ()))⟩) := by
      rw [OT.Om]
      refine OT.ox (ah ?_) rfl
      simp only [List.all_cons, List.all_nil, Bool.and_true]
      exact decide_eq_true (by omega)
    cases hb : List.isEmpty x.1.1
    · exact h1
    · refine ⟨?_, h1⟩
      rw [List.isEmpty_iff.1 hb]
      rfl
  · unfold fnK at hq
    split at hq
    · rename_i o ho
      split at hq
      · rename_i y hy
        subst hq
        exact ⟨by cases ho; rfl, hy⟩
      · exact hq.elim
    · exact hq.elim
def ul : bL := (gT.aE ij aax)
theorem Sf : aa Try.prog 38 ul := ajA
theorem Se : aB ul := ax
def yn : Env := av 38 ul Hz
theorem uR : aN Try.prog yn := ag Sf A4
theorem ym : aq yn := ab Se Cm
theorem S3 : aU Try.prog te yn := aG follows ak uR ym
def pY : ao := ⟨[.val false .str, .val false .int], [], true, 0, false⟩
abbrev ado : Type := ((List UInt8) × (Int) × Unit) × (Unit)
def Gc : ar := ⟨[.od, .val false .int], [], false⟩
def Wi : ar := ⟨[.ptr 0 0 0, .val false .int], [(0, .cells [.val false .int, .val false .u64, .val false .u64, .val false .u64, .val false .u64, .val false .u64, .val false .u64, .val false .u64, .val false .u64, .own 1, .val false .u64]), (1, .row .u8)], false⟩
def RQ : List ar := [Gc, Wi]
def Gd (a0 : List UInt8) (a1 : Int) : OT pY.Y :=
  let z0 : List UInt8 := List.take 16 a0 ++ List.drop (List.length a0) [(0 : UInt8), (0 : UInt8), (0 : UInt8), (0 : UInt8), (0 : UInt8), (0 : UInt8), (0 : UInt8), (0 : UInt8), (0 : UInt8), (0 : UInt8), (0 : UInt8), (0 : UInt8), (0 : UInt8), (0 : UInt8), (0 : UInt8), (0 : UInt8)]
  let z1 : Bool := decide (16 ≤ List.length z0) && true
  let z2 : List UInt8 := List.take 8 (List.drop 0 z0)
  let z3 : List UInt8 := List.take 8 (List.drop 8 z0)
  (.br (decide ((16 : Int) < (↑(List.length a0) : Int)))
  (.ok ⟨Gc, (((), ((30 : Int), ())), ())⟩)
  (.br (decide (a1 < (1 : Int)))
    (.ok ⟨Gc, (((), ((30 : Int), ())), ())⟩)
    (.br (decide ((64 : Int) < a1))
      (.ok ⟨Gc, (((), ((30 : Int), ())), ())⟩)
      (gd [z1, kq ((z2, ()), ()), z1, kq ((z3, ()), ())] (.ok ⟨Wi, (((), ((0 : Int), ())), ((a1, ((7640891576956012808 : UInt64) ^^^ (16842752 : UInt64) + i2u a1, ((13503953896175478587 : UInt64), ((4354685564936845355 : UInt64), ((11912009170470909681 : UInt64), ((5840696475078001361 : UInt64), ((11170449401992604703 : UInt64), ((2270897969802886507 : UInt64) ^^^ iY z2 (List.length z2), ((6620516959819538809 : UInt64) ^^^ iY z3 (List.length z3), ((), ((0 : UInt64), ()))))))))))), ([], ())))⟩)))))
theorem atq (x : ado) (Q : pY.Y → Prop) : wpf te yn au 1000 Try.f56 (pY.inp.inj x).tm (pY.inp.inj x).hp (aog pY RQ Q) (fun _ _ => False) = (Gd (x.1.1) (x.1.2.1)).wpR Q := by kernel_rfl
theorem ajj (pre : ado → Bool) (F : ado → OT pY.Y) (hF : ∀ (x : ado) oy, pre x = true → (F x).run = some oy → (Gd (x.1.1) (x.1.2.1)).run = some oy) : aa Try.prog 56 (pY.aE pre F) :=
  M1 ak uR S3 (f := 56) (fn := Try.f56) (c := aj Try.f56) (by kernel_rfl) (by kernel_rfl) (by kernel_rfl) (S := pY) (k := 0) (by kernel_rfl) (fun R hR => ae) (n := 1000) (outs := RQ) (by kernel_rfl) (pre := pre) (F := F) (T := fun x => Gd (x.1.1) (x.1.2.1)) (fun x Q => atq x Q) hF
def HT (p : List UInt8) : List UInt8 := p.take 16 ++ (List.replicate 16 (0 : UInt8)).drop p.length
def gX (p : List UInt8) (n : Int) : Bool := decide (16 < (p.length : Int)) || decide (n < 1) || decide (64 < n)
theorem Qb {p : List UInt8} (h : p.length ≤ 16) : (HT p).length = 16 := by
  simp only [HT, List.length_append, List.length_take, List.length_drop, List.length_replicate]
  omega
abbrev Ig : Type := Int × UInt64 × UInt64 × UInt64 × UInt64 × UInt64 × UInt64 × UInt64 × UInt64 × Unit × UInt64 × Unit
def arA (n : Int) (h : List UInt64) (c : UInt64) : Ig := (n, h.getD 0 0, h.getD 1 0, h.getD 2 0, h.getD 3 0, h.getD 4 0, h.getD 5 0, h.getD 6 0, h.getD 7 0, (), c, ())
def ar0 (p : List UInt8) (n : Int) : List UInt64 := [0x6a09e667f3bcc908 ^^^ (16842752 + i2u n), 0xbb67ae8584caa73b, 0x3c6ef372fe94f82b, 0xa54ff53a5f1d36f1, 0x510e527fade682d1, 0x9b05688c2b3e6c1f,
  0x1f83d9abfb41bd6b ^^^ iY ((HT p).take 8) 8, 0x5be0cd19137e2179 ^^^ iY (((HT p).drop 8).take 8) 8]
def aan (_ : ado) : Bool := true
def Kv (x : ado) : OT pY.Y := .br (gX x.1.1 x.1.2.1) (.ok ⟨Gc, (((), ((30 : Int), ())), ())⟩)
  (.ok ⟨Wi, (((), ((0 : Int), ())), (arA x.1.2.1 (ar0 x.1.1 x.1.2.1) 0, ([], ())))⟩)
theorem arP : aa Try.prog 56 (pY.aE aan Kv) := ajj _ _ fun x oy _ ho => by
  rw [← ho]
  obtain ⟨⟨p, n, ⟨⟩⟩, ⟨⟩⟩ := x
  clear ho
  by_cases h1 : 16 < (p.length : Int)
  · have e1 : decide (16 < (p.length : Int)) = true := decide_eq_true h1
    have eb : gX p n = true := by simp only [gX, e1, Bool.true_or]
    simp only [Kv, Gd, e1, eb]
    rfl
  · have e1 : decide (16 < (p.length : Int)) = false := decide_eq_false h1
    by_cases h2 : n < 1
    · have e2 : decide (n < 1) = true := decide_eq_true h2
      have eb : gX p n = true := by simp only [gX, e1, e2, Bool.true_or, Bool.false_or]
      simp only [Kv, Gd, e1, e2, eb]
      rfl
    · have e2 : decide (n < 1) = false := decide_eq_false h2
      by_cases h3 : 64 < n
      · have e3 : decide (64 < n) = true := decide_eq_true h3
        have eb : gX p n = true := by simp only [gX, e1, e2, e3, Bool.false_or]
        simp only [Kv, Gd, e1, e2, e3, eb]
        rfl
      · have e3 : decide (64 < n) = false := decide_eq_false h3
        have eb : gX p n = false := by simp only [gX, e1, e2, e3, Bool.false_or]
        have hl := Qb (p := p) (by omega)
        have hp : p.take 16 ++ List.drop p.length [(0 : UInt8), 0, 0, 0, 0, 0, 0, 0, 0, 0, 0, 0, 0, 0, 0, 0] = HT p := rfl
        have l1 : ((HT p).take 8).length = 8 := by simp only [List.length_take, hl]; omega
        have l2 : (((HT p).drop 8).take 8).length = 8 := by simp only [List.length_take, List.length_drop, hl]; omega
        simp only [Kv, Gd, e1, e2, e3, eb, hp, List.drop_zero, l1, l2]
        refine (ah ?_).trans rfl
        simp only [kq, hl, l1, l2]
        decide
def Gb : bL := (pY.aE aan Kv)
theorem adn : aa Try.prog 56 Gb := arP
theorem adm : aB Gb := ax
def KS : Env := av 56 Gb yn
theorem yg : aN Try.prog KS := ag adn uR
theorem Hw : aq KS := ab adm ym
theorem KR : aU Try.prog te KS := aG follows ak yg Hw
def adP (w : Sh) : CSh := .cells [.val false .int, .val false .u64, .val false .u64, .val false .u64, .val false .u64, .val false .u64, .val false .u64, .val false .u64, .val false .u64, w, .val false .u64]
def gO : ao := ⟨[.ptr 0 0 0, .val false (.list .u8)], [(0, adP (.own 1)), (1, .row .u8)], true, 1, true⟩
def mA : Shape := ⟨61, [(0, .ptr 0 0 0)], [(0, adP (.val false (.list .u8))), (1, .gone)], 2, true⟩
def nR : Shape := mA
abbrev Af : Type := ((Unit) × (List (UInt8)) × Unit) × (((Int) × (UInt64) × (UInt64) × (UInt64) × (UInt64) × (UInt64) × (UInt64) × (UInt64) × (UInt64) × (Unit) × (UInt64) × Unit) × (List (UInt8)) × Unit)
abbrev b8 : Type := ((Unit) × Unit) × (((Int) × (UInt64) × (UInt64) × (UInt64) × (UInt64) × (UInt64) × (UInt64) × (UInt64) × (UInt64) × (List (UInt8)) × (UInt64) × Unit) × (Unit) × Unit)
abbrev iJ : Type := ((Unit) × Unit) × (((Int) × (UInt64) × (UInt64) × (UInt64) × (UInt64) × (UInt64) × (UInt64) × (UInt64) × (UInt64) × (List (UInt8)) × (UInt64) × Unit) × (Unit) × Unit)
def RC : SE → Option Shape := iX [(0, nR)] none
def ai7 (c0_0 : Int) (c0_1 : UInt64) (c0_2 : UInt64) (c0_3 : UInt64) (c0_4 : UInt64) (c0_5 : UInt64) (c0_6 : UInt64) (c0_7 : UInt64) (c0_8 : UInt64) (c0_9 : List (UInt8)) (c0_10 : UInt64) : OT (Sum b8 aJ) :=
  let z0 : Nat := List.length c0_9
  let z1 : Int := (↑z0 : Int)
  let z2 : List UInt8 := List.drop 0 (List.take 128 c0_9)
  let z3 : Nat := List.length z2
  let z4 : List UInt64 := ss [c0_1, c0_2, c0_3, c0_4, c0_5, c0_6, c0_7, c0_8] (tab z2 128 (0 : UInt8)) (c0_10 + (128 : UInt64)) false
  (.br (decide ((128 : Int) < z1))
  (gd [cH (0 : Int) (128 : Int) z0, decide (128 ≤ z3), decide (128 ≤ z3), cH (128 : Int) z1 z0] (.ok (.inl (((), ()), ((c0_0, (List.getD z4 0 0, (List.getD z4 1 0, (List.getD z4 2 0, (List.getD z4 3 0, (List.getD z4 4 0, (List.getD z4 5 0, (List.getD z4 6 0, (List.getD z4 7 0, (List.drop 128 c0_9, (c0_10 + (128 : UInt64), ()))))))))))), ((), ()))))))
  (.ok (.inr ⟨(.exit 0, nR), (((), ()), ((c0_0, (c0_1, (c0_2, (c0_3, (c0_4, (c0_5, (c0_6, (c0_7, (c0_8, (c0_9, (c0_10, ()))))))))))), ((), ())))⟩)))
def pV (s : b8) : OT (Sum b8 aJ) := ai7 (s.2.1.1) (s.2.1.2.1) (s.2.1.2.2.1) (s.2.1.2.2.2.1) (s.2.1.2.2.2.2.1) (s.2.1.2.2.2.2.2.1) (s.2.1.2.2.2.2.2.2.1) (s.2.1.2.2.2.2.2.2.2.1) (s.2.1.2.2.2.2.2.2.2.2.1) (s.2.1.2.2.2.2.2.2.2.2.2.1) (s.2.1.2.2.2.2.2.2.2.2.2.2.1)
theorem ai4 (s : b8) (Q : Sum b8 aJ → Prop) : wps te KS au 1000 (bq (aj Try.f124) 0) (mA.inj s) (cE mA RC (Q : Sum mA.T aJ → Prop)) = (pV s).wpR Q := by kernel_rfl
def wJ (g0_0 : b8 → iJ) (s : b8) : OT aJ := (.ok ⟨(.exit 0, nR), g0_0 s⟩)
def F3 : ar := ⟨[], [(0, .cells [.val false .int, .val false .u64, .val false .u64, .val false .u64, .val false .u64, .val false .u64, .val false .u64, .val false .u64, .val false .u64, .own 1, .val false .u64]), (1, .row .u8)], false⟩
def Kn : SV → Option ar := fun _ => some F3
def Np (ok0 : b8 → Bool) (g0_0 : b8 → iJ) (a1 : List (UInt8)) (c0_0 : Int) (c0_1 : UInt64) (c0_2 : UInt64) (c0_3 : UInt64) (c0_4 : UInt64) (c0_5 : UInt64) (c0_6 : UInt64) (c0_7 : UInt64) (c0_8 : UInt64) (c0_10 : UInt64) (c1 : List (UInt8)) : OT gO.Y :=
  let z0 : (PUnit × PUnit) × (Int × UInt64 × UInt64 × UInt64 × UInt64 × UInt64 × UInt64 × UInt64 × UInt64 × List UInt8 × UInt64 × PUnit) × PUnit × PUnit := (((), ()), (c0_0, c0_1, c0_2, c0_3, c0_4, c0_5, c0_6, c0_7, c0_8, c1 ++ a1, c0_10, ()), (), ())
  let z1 := (g0_0 z0).snd.fst
  let z2 := z1.snd
  let z3 := z2.snd
  let z4 := z3.snd
  let z5 := z4.snd
  let z6 := z5.snd
  let z7 := z6.snd
  let z8 := z7.snd
  let z9 := z8.snd
  let z10 := z9.snd
  let z11 := z10.fst
  (gd [decide ((List.length c1 + List.length a1) * 1 ≤ 140737488355328), ok0 z0, ij ((z11, ()), ())] (.ok ⟨F3, ((), ((z1.fst, (z2.fst, (z3.fst, (z4.fst, (z5.fst, (z6.fst, (z7.fst, (z8.fst, (z9.fst, ((), (z10.snd.fst, ()))))))))))), (z11, ())))⟩))
theorem ane (ok0 : b8 → Bool) (g0_0 : b8 → iJ) (x : Af) (Q : gO.Y → Prop) : wpf te KS (bj 0 (cS mA 0 ok0 (wJ g0_0)) au) 1000 Try.f124 (gO.inp.inj x).tm (gO.inp.inj x).hp (fnK gO Kn Q) (fun _ _ => False) = (Np ok0 g0_0 (x.1.2.1) (x.2.1.1) (x.2.1.2.1) (x.2.1.2.2.1) (x.2.1.2.2.2.1) (x.2.1.2.2.2.2.1) (x.2.1.2.2.2.2.2.1) (x.2.1.2.2.2.2.2.2.1) (x.2.1.2.2.2.2.2.2.2.1) (x.2.1.2.2.2.2.2.2.2.2.1) (x.2.1.2.2.2.2.2.2.2.2.2.2.1) (x.2.2.1)).wpR Q := by kernel_rfl
theorem V7 (ok0 : b8 → Bool) (g0_0 : b8 → iJ) (h0 : ∀ s : b8, ok0 s = true → ∃ m e, ay (pV) m s = some e ∧ (wJ g0_0 s).run = some e) (pre : Af → Bool) (F : Af → OT gO.Y) (hF : ∀ (x : Af) oy, pre x = true → (F x).run = some oy → (Np ok0 g0_0 (x.1.2.1) (x.2.1.1) (x.2.1.2.1) (x.2.1.2.2.1) (x.2.1.2.2.2.1) (x.2.1.2.2.2.2.1) (x.2.1.2.2.2.2.2.1) (x.2.1.2.2.2.2.2.2.1) (x.2.1.2.2.2.2.2.2.2.1) (x.2.1.2.2.2.2.2.2.2.2.1) (x.2.1.2.2.2.2.2.2.2.2.2.2.1) (x.2.2.1)).run = some oy) : aa Try.prog 124 (gO.aE pre F) :=
  az ak yg KR (f := 124) (fn := Try.f124) (c := aj Try.f124) (by kernel_rfl) (by kernel_rfl) (by kernel_rfl) (S := gO) (k := 2) (by kernel_rfl) (fun R hR => (aH (c := (aj Try.f124)) (by kernel_rfl) (id := 0) (by kernel_rfl) (bg ak yg KR (sh := mA) hR (xs := RC) (aF (by kernel_rfl) (by kernel_rfl) hR) aS ae (n := 1000) (T := pV) (fun s Q => ai4 s Q) (ok := ok0) (f := wJ g0_0) h0) ae)) (n := 1000) (sel := Kn) (fun v o h => by cases h; rfl) (pre := pre) (F := F) (T := fun x => Np ok0 g0_0 (x.1.2.1) (x.2.1.1) (x.2.1.2.1) (x.2.1.2.2.1) (x.2.1.2.2.2.1) (x.2.1.2.2.2.2.1) (x.2.1.2.2.2.2.2.1) (x.2.1.2.2.2.2.2.2.1) (x.2.1.2.2.2.2.2.2.2.1) (x.2.1.2.2.2.2.2.2.2.2.1) (x.2.1.2.2.2.2.2.2.2.2.2.2.1) (x.2.2.1)) (fun x Q => ane ok0 g0_0 x Q) hF
def yo (s : List UInt64 × UInt64 × List UInt8) : List UInt64 × UInt64 × List UInt8 := (ss s.1 (s.2.2.take 128) (s.2.1 + 128) false, s.2.1 + 128, s.2.2.drop 128)
def sI (s : List UInt64 × UInt64 × List UInt8) : List UInt64 × UInt64 × List UInt8 := upto (fun _ s => yo s) s ((s.2.2.length - 1) / 128)
abbrev atx : Type := Int × UInt64 × UInt64 × UInt64 × UInt64 × UInt64 × UInt64 × UInt64 × UInt64 × List UInt8 × UInt64 × Unit
def arz (n : Int) (s : List UInt64 × UInt64 × List UInt8) : atx := (n, s.1.getD 0 0, s.1.getD 1 0, s.1.getD 2 0, s.1.getD 3 0, s.1.getD 4 0, s.1.getD 5 0, s.1.getD 6 0, s.1.getD 7 0, s.2.2, s.2.1, ())
def asR (x : atx) : List UInt64 × UInt64 × List UInt8 := ([x.2.1, x.2.2.1, x.2.2.2.1, x.2.2.2.2.1, x.2.2.2.2.2.1, x.2.2.2.2.2.2.1, x.2.2.2.2.2.2.2.1, x.2.2.2.2.2.2.2.2.1], x.2.2.2.2.2.2.2.2.2.2.1, x.2.2.2.2.2.2.2.2.2.1)
theorem pN {h : List UInt64} {b : List UInt8} {c : UInt64} {l : Bool} (hh : h.length = 8) : (ss h b c l).length = 8 := by unfold ss; rw [jf]; exact hh
def Ko (_ : b8) : Bool := true
def RF (s : b8) : iJ := (((), ()), (arz s.2.1.1 (sI (asR s.2.1)), (), ()))
theorem ai6 : ∀ s : b8, Ko s = true → ∃ m e, ay pV m s = some e ∧ (wJ RF s).run = some e := by
  rintro ⟨⟨⟨⟩, ⟨⟩⟩, ⟨⟨n, h0, h1, h2, h3, h4, h5, h6, h7, w, c, ⟨⟩⟩, ⟨⟩, ⟨⟩⟩⟩ _
  have := (aT (T := pV) (fun _ s => ((((), ()), (arz n s, (), ())) : b8)) (fun _ s => yo s) (fun s => (⟨(.exit 0, nR), (((), ()), (arz n s, (), ()))⟩ : aJ)) ((w.length - 1) / 128) ([h0, h1, h2, h3, h4, h5, h6, h7], c, w)
    (fun k s => s.1.length = 8 ∧ s.2.2.length + 128 * k = w.length) ⟨rfl, by simp⟩ (fun k s hk hs => ⟨?_, ?_⟩) (fun s hs => ?_)).1
  · obtain ⟨m, hm⟩ := this
    exact ⟨m, _, hm, rfl⟩
  · obtain ⟨h, c, v⟩ := s
    obtain ⟨a1, a2⟩ := hs
    dsimp only at a1 a2
    have hv : 128 < v.length := by omega
    have t1 : [h.getD 0 0, h.getD 1 0, h.getD 2 0, h.getD 3 0, h.getD 4 0, h.getD 5 0, h.getD 6 0, h.getD 7 0] = h := (rfl : _ = tab h 8 0).trans (gV a1)
    have t2 : tab (v.take 128) 128 0 = v.take 128 := gV (by simp; omega)
    have t3 : (v.take 128).length = 128 := by simp; omega
    refine (OT.aw (decide_eq_true (by dsimp only [arz]; omega))).trans ((ah ?_).trans ?_)
    · simp only [arz, List.drop_zero, t3, List.all_cons, List.all_nil, Bool.and_true, Bool.and_eq_true]
      exact ⟨dq (by omega), rfl, rfl, dq (by omega)⟩
    · simp only [OT.cn, arz, List.drop_zero, t1, t2]
      rfl
  · obtain ⟨h, c, v⟩ := s
    obtain ⟨a1, a2⟩ := hs
    dsimp only at a1 a2
    refine ⟨pN a1, ?_⟩
    simp only [yo, List.length_drop]
    omega
  · obtain ⟨h, c, v⟩ := s
    obtain ⟨a1, a2⟩ := hs
    dsimp only at a1 a2
    exact OT.al (decide_eq_false (by dsimp only [arz]; omega))
def tH (x : Ig) (w : List UInt8) : List UInt64 × UInt64 × List UInt8 := ([x.2.1, x.2.2.1, x.2.2.2.1, x.2.2.2.2.1, x.2.2.2.2.2.1, x.2.2.2.2.2.2.1, x.2.2.2.2.2.2.2.1, x.2.2.2.2.2.2.2.2.1], x.2.2.2.2.2.2.2.2.2.2.1, w)
def gU (s : List UInt64 × UInt64 × List UInt8) (b : List UInt8) : List UInt64 × UInt64 × List UInt8 := sI (s.1, s.2.1, s.2.2 ++ b)
theorem Z3 (s : List UInt64 × UInt64 × List UInt8) : ∀ k, (upto (fun _ s => yo s) s k).2.2.length ≤ s.2.2.length
  | 0 => Nat.le_refl _
  | k + 1 => by
    have := Z3 s k
    show (List.drop 128 (upto (fun _ s => yo s) s k).2.2).length ≤ _
    rw [List.length_drop]
    omega
theorem ab0 {n : Int} {h : List UInt64} {c : UInt64} {w : List UInt8} (hh : h.length = 8) : tH (arA n h c) w = (h, c, w) := by
  have : [h.getD 0 0, h.getD 1 0, h.getD 2 0, h.getD 3 0, h.getD 4 0, h.getD 5 0, h.getD 6 0, h.getD 7 0] = h := (rfl : _ = tab h 8 0).trans (gV hh)
  simp only [tH, arA, this]
theorem ate (s : List UInt64 × UInt64 × List UInt8) (hs : s.1.length = 8) : ∀ k, (upto (fun _ s => yo s) s k).1.length = 8
  | 0 => hs
  | k + 1 => pN (ate s hs k)
theorem Na (s : List UInt64 × UInt64 × List UInt8) : ∀ k, (upto (fun _ s => yo s) s k).2.2.length = s.2.2.length - 128 * k
  | 0 => rfl
  | k + 1 => by
    have := Na s k
    show (List.drop 128 (upto (fun _ s => yo s) s k).2.2).length = _
    rw [List.length_drop, this]
    omega
theorem am1 (s : List UInt64 × UInt64 × List UInt8) (hs : s.1.length = 8) : (sI s).1.length = 8 := ate s hs _
theorem Kc (s : List UInt64 × UInt64 × List UInt8) : (sI s).2.2.length ≤ 128 := by
  unfold sI
  rw [Na]
  omega
def Ae (x : Af) : Bool := decide (x.2.2.1.length + x.1.2.1.length ≤ 140737488355328)
def aac (x : Af) : OT gO.Y := .ok ⟨F3, ((), (arA x.2.1.1 (gU (tH x.2.1 x.2.2.1) x.1.2.1).1 (gU (tH x.2.1 x.2.2.1) x.1.2.1).2.1, ((gU (tH x.2.1 x.2.2.1) x.1.2.1).2.2, ())))⟩
theorem ai5 : aa Try.prog 124 (gO.aE Ae aac) := V7 Ko RF ai6 _ _ fun x oy hp ho => by
  rw [← ho]
  clear ho
  obtain ⟨⟨⟨⟩, b, ⟨⟩⟩, ⟨⟨n, h0, h1, h2, h3, h4, h5, h6, h7, ⟨⟩, c, ⟨⟩⟩, w, ⟨⟩⟩⟩ := x
  have hp' := of_decide_eq_true hp
  dsimp only at hp'
  refine (ah ?_).trans rfl
  simp only [List.all_cons, List.all_nil, Bool.and_true, Bool.and_eq_true]
  refine ⟨decide_eq_true (by omega), rfl, decide_eq_true ?_⟩
  have := Z3 ([h0, h1, h2, h3, h4, h5, h6, h7], c, w ++ b) (((w ++ b).length - 1) / 128)
  show (sI ([h0, h1, h2, h3, h4, h5, h6, h7], c, w ++ b)).2.2.length ≤ _
  refine Nat.le_trans this ?_
  show (w ++ b).length ≤ _
  rw [List.length_append]
  exact hp'
def ud : bL := (gO.aE Ae aac)
theorem RE : aa Try.prog 124 ud := ai5
theorem RD : aB ud := ax
def sj : Env := av 124 ud KS
theorem n9 : aN Try.prog sj := ag RE yg
theorem xY : aq sj := ab RD Hw
theorem Ci : aU Try.prog te sj := aG follows ak n9 xY
def pW : ao := ⟨[.ptr 0 0 0], [(0, adP (.own 1)), (1, .row .u8)], false, 2, true⟩
abbrev adh : Type := ((Unit) × Unit) × (((Int) × (UInt64) × (UInt64) × (UInt64) × (UInt64) × (UInt64) × (UInt64) × (UInt64) × (UInt64) × (Unit) × (UInt64) × Unit) × (List (UInt8)) × Unit)
def F6 : Shape := ⟨51, [(5, .ptr 2 0 0), (6, .own 3), (33, .val false .int), (34, .val false .int)], [(0, .cells [.val false .int, .val false .u64, .val false .u64, .val false .u64, .val false .u64, .val false .u64, .val false .u64, .val false .u64, .val false .u64, .own 1, .val false .u64]), (1, .row .u8), (2, .row .u64), (3, .row .u8)], 2, true⟩
abbrev dg : Type := ((Unit) × (Unit) × (Int) × (Int) × Unit) × (((Int) × (UInt64) × (UInt64) × (UInt64) × (UInt64) × (UInt64) × (UInt64) × (UInt64) × (UInt64) × (Unit) × (UInt64) × Unit) × (List (UInt8)) × (List (UInt64)) × (List (UInt8)) × Unit)
def wL : Shape := ⟨51, [(6, .own 2)], [(0, .cells [.val false .int, .val false .u64, .val false .u64, .val false .u64, .val false .u64, .val false .u64, .val false .u64, .val false .u64, .val false .u64, .own 1, .val false .u64]), (1, .row .u8), (2, .row .u8)], 2, true⟩
abbrev mB : Type := ((Unit) × Unit) × (((Int) × (UInt64) × (UInt64) × (UInt64) × (UInt64) × (UInt64) × (UInt64) × (UInt64) × (UInt64) × (Unit) × (UInt64) × Unit) × (List (UInt8)) × (List (UInt8)) × Unit)
def ai9 : SE → Option Shape := iX [(0, wL)] none
def arN (a33 : Int) (a34 : Int) (c0_0 : Int) (c0_1 : UInt64) (c0_2 : UInt64) (c0_3 : UInt64) (c0_4 : UInt64) (c0_5 : UInt64) (c0_6 : UInt64) (c0_7 : UInt64) (c0_8 : UInt64) (c0_10 : UInt64) (c1 : List (UInt8)) (c2 : List (UInt64)) (c3 : List (UInt8)) : OT (Sum dg aJ) :=
  let z0 : Int := Int.tdiv a34 (8 : Int)
  let z1 : Int := (8 : Int) * Int.tmod a34 (8 : Int)
  let z2 : Nat := List.length c3
  let z3 : Nat := Int.toNat a34
  (.br (decide (a34 < a33))
  (gd [true && inR z0, inB z0 8, decide (Int.toNat z0 + 0 < List.length c2), inR z1, decide ((0 : Int) ≤ z1), inB a34 z2, decide (z3 < z2), inR (a34 + (1 : Int))] (.ok (.inl (((), ((), (a33, (a34 + (1 : Int), ())))), ((c0_0, (c0_1, (c0_2, (c0_3, (c0_4, (c0_5, (c0_6, (c0_7, (c0_8, ((), (c0_10, ()))))))))))), (c1, (c2, (List.set c3 z3 (UInt64.toUInt8 (aX (List.getD c2 (Int.toNat z0 + 0) (0 : UInt64)) z1)), ()))))))))
  (.ok (.inr ⟨(.exit 0, wL), (((), ()), ((c0_0, (c0_1, (c0_2, (c0_3, (c0_4, (c0_5, (c0_6, (c0_7, (c0_8, ((), (c0_10, ()))))))))))), (c1, (c3, ()))))⟩)))
def F7 (s : dg) : OT (Sum dg aJ) := arN (s.1.2.2.1) (s.1.2.2.2.1) (s.2.1.1) (s.2.1.2.1) (s.2.1.2.2.1) (s.2.1.2.2.2.1) (s.2.1.2.2.2.2.1) (s.2.1.2.2.2.2.2.1) (s.2.1.2.2.2.2.2.2.1) (s.2.1.2.2.2.2.2.2.2.1) (s.2.1.2.2.2.2.2.2.2.2.1) (s.2.1.2.2.2.2.2.2.2.2.2.2.1) (s.2.2.1) (s.2.2.2.1) (s.2.2.2.2.1)
theorem arK (s : dg) (Q : Sum dg aJ → Prop) : wps te sj au 1000 (bq (aj Try.f119) 0) (F6.inj s) (cE F6 ai9 (Q : Sum F6.T aJ → Prop)) = (F7 s).wpR Q := by kernel_rfl
def Nu (g0_0 : dg → mB) (s : dg) : OT aJ := (.ok ⟨(.exit 0, wL), g0_0 s⟩)
def We : ar := ⟨[.own 2], [(0, .cells [.val false .int, .val false .u64, .val false .u64, .val false .u64, .val false .u64, .val false .u64, .val false .u64, .val false .u64, .val false .u64, .own 1, .val false .u64]), (1, .row .u8), (2, .row .u8)], false⟩
def aaf : SV → Option ar := fun _ => some We
def ajb (ok0 : dg → Bool) (g0_0 : dg → mB) (c0_0 : Int) (c0_1 : UInt64) (c0_2 : UInt64) (c0_3 : UInt64) (c0_4 : UInt64) (c0_5 : UInt64) (c0_6 : UInt64) (c0_7 : UInt64) (c0_8 : UInt64) (c0_10 : UInt64) (c1 : List (UInt8)) : OT pW.Y :=
  let z0 : Nat := List.length c1
  let z1 : List UInt8 := List.take 128 c1 ++ List.drop z0 (List.replicate 128 (0 : UInt8))
  let z2 : List UInt8 := List.replicate (Int.toNat c0_0) (0 : UInt8)
  let z3 : List UInt64 := ss [c0_1, c0_2, c0_3, c0_4, c0_5, c0_6, c0_7, c0_8] (tab z1 128 (0 : UInt8)) (c0_10 + i2u (↑(min z0 128) : Int)) true
  let z4 : (PUnit × PUnit × Int × Int × PUnit) × (Int × UInt64 × UInt64 × UInt64 × UInt64 × UInt64 × UInt64 × UInt64 × UInt64 × PUnit × UInt64 × PUnit) × List UInt8 × List UInt64 × List UInt8 × PUnit := (((), (), (↑(List.length z2) : Int), (0 : Int), ()), (c0_0, c0_1, c0_2, c0_3, c0_4, c0_5, c0_6, c0_7, c0_8, (), c0_10, ()), c1, [List.getD z3 0 0, List.getD z3 1 0, List.getD z3 2 0, List.getD z3 3 0, List.getD z3 4 0, List.getD z3 5 0, List.getD z3 6 0, List.getD z3 7 0], z2, ())
  let z5 := (g0_0 z4).snd
  let z6 := z5.fst
  let z7 := z6.snd
  let z8 := z7.snd
  let z9 := z8.snd
  let z10 := z9.snd
  let z11 := z10.snd
  let z12 := z11.snd
  let z13 := z12.snd
  let z14 := z13.snd
  let z15 := z5.snd
  (gd [decide (128 ≤ List.length z1), decide ((0 : Int) ≤ c0_0) && decide (c0_0 ≤ c0_0) && decide (c0_0 * (1 : Int) ≤ (140737488355328 : Int)) && decide (c0_0 ≤ (140737488355328 : Int)), ok0 z4] (.ok ⟨We, (((), ()), ((z6.fst, (z7.fst, (z8.fst, (z9.fst, (z10.fst, (z11.fst, (z12.fst, (z13.fst, (z14.fst, ((), (z14.snd.snd.fst, ()))))))))))), (z15.fst, (z15.snd.fst, ()))))⟩))
theorem ato (ok0 : dg → Bool) (g0_0 : dg → mB) (x : adh) (Q : pW.Y → Prop) : wpf te sj (bj 0 (cS F6 0 ok0 (Nu g0_0)) au) 1000 Try.f119 (pW.inp.inj x).tm (pW.inp.inj x).hp (fnK pW aaf Q) (fun _ _ => False) = (ajb ok0 g0_0 (x.2.1.1) (x.2.1.2.1) (x.2.1.2.2.1) (x.2.1.2.2.2.1) (x.2.1.2.2.2.2.1) (x.2.1.2.2.2.2.2.1) (x.2.1.2.2.2.2.2.2.1) (x.2.1.2.2.2.2.2.2.2.1) (x.2.1.2.2.2.2.2.2.2.2.1) (x.2.1.2.2.2.2.2.2.2.2.2.2.1) (x.2.2.1)).wpR Q := by kernel_rfl
theorem aja (ok0 : dg → Bool) (g0_0 : dg → mB) (h0 : ∀ s : dg, ok0 s = true → ∃ m e, ay (F7) m s = some e ∧ (Nu g0_0 s).run = some e) (pre : adh → Bool) (F : adh → OT pW.Y) (hF : ∀ (x : adh) oy, pre x = true → (F x).run = some oy → (ajb ok0 g0_0 (x.2.1.1) (x.2.1.2.1) (x.2.1.2.2.1) (x.2.1.2.2.2.1) (x.2.1.2.2.2.2.1) (x.2.1.2.2.2.2.2.1) (x.2.1.2.2.2.2.2.2.1) (x.2.1.2.2.2.2.2.2.2.1) (x.2.1.2.2.2.2.2.2.2.2.1) (x.2.1.2.2.2.2.2.2.2.2.2.2.1) (x.2.2.1)).run = some oy) : aa Try.prog 119 (pW.aE pre F) :=
  az ak n9 Ci (f := 119) (fn := Try.f119) (c := aj Try.f119) (by kernel_rfl) (by kernel_rfl) (by kernel_rfl) (S := pW) (k := 2) (by kernel_rfl) (fun R hR => (aH (c := (aj Try.f119)) (by kernel_rfl) (id := 0) (by kernel_rfl) (bg ak n9 Ci (sh := F6) hR (xs := ai9) (aF (by kernel_rfl) (by kernel_rfl) hR) aS ae (n := 1000) (T := F7) (fun s Q => arK s Q) (ok := ok0) (f := Nu g0_0) h0) ae)) (n := 1000) (sel := aaf) (fun v o h => by cases h; rfl) (pre := pre) (F := F) (T := fun x => ajb ok0 g0_0 (x.2.1.1) (x.2.1.2.1) (x.2.1.2.2.1) (x.2.1.2.2.2.1) (x.2.1.2.2.2.2.1) (x.2.1.2.2.2.2.2.1) (x.2.1.2.2.2.2.2.2.1) (x.2.1.2.2.2.2.2.2.2.1) (x.2.1.2.2.2.2.2.2.2.2.1) (x.2.1.2.2.2.2.2.2.2.2.2.2.1) (x.2.2.1)) (fun x Q => ato ok0 g0_0 x Q) hF
def CD (h : List UInt64) (n : Nat) : List UInt8 := upto (fun k o => o.set k (UInt64.toUInt8 (aX (h.getD (k / 8) 0) (8 * ((k % 8 : Nat) : Int))))) (List.replicate n 0) n
def Nt (s : dg) : Bool := decide (s.1.2.2.2.1 = 0 ∧ s.2.2.2.1.length = 8 ∧ s.1.2.2.1 ≤ 64 ∧ 0 ≤ s.1.2.2.1 ∧ s.2.2.2.2.1 = List.replicate s.1.2.2.1.toNat 0)
def Wf (s : dg) : mB := (((), ()), (s.2.1, s.2.2.1, CD s.2.2.2.1 s.1.2.2.1.toNat, ()))
theorem arM : ∀ s : dg, Nt s = true → ∃ m e, ay F7 m s = some e ∧ (Nu Wf s).run = some e := by
  rintro ⟨⟨⟨⟩, ⟨⟩, n, i, ⟨⟩⟩, ⟨d, w, h, o, ⟨⟩⟩⟩ hh
  have h' := of_decide_eq_true hh
  dsimp only at h'
  obtain ⟨rfl, hl, hn, hn0, rfl⟩ := h'
  obtain ⟨k, rfl⟩ : ∃ k : Nat, n = (k : Int) := ⟨n.toNat, by omega⟩
  have := (aT (T := F7) (fun i o => ((((), (), (k : Int), (i : Int), ()), (d, w, h, o, ())) : dg)) (fun k o => o.set k (UInt64.toUInt8 (aX (h.getD (k / 8) 0) (8 * ((k % 8 : Nat) : Int)))))
    (fun o => (⟨(.exit 0, wL), (((), ()), (d, w, o, ()))⟩ : aJ)) k (List.replicate k 0) (fun _ o => o.length = k) (by simp) (fun i o hi ho => ⟨?_, by rw [List.length_set]; exact ho⟩) (fun o ho => ?_)).1
  · obtain ⟨m, hm⟩ := this
    exact ⟨m, _, hm, rfl⟩
  · have t1 : Int.tdiv (i : Int) 8 = ((i / 8 : Nat) : Int) := by rw [Int.tdiv_eq_ediv_of_nonneg (by omega)]; omega
    have t2 : Int.tmod (i : Int) 8 = ((i % 8 : Nat) : Int) := by rw [Int.tmod_eq_emod_of_nonneg (by omega)]; omega
    refine (OT.aw (decide_eq_true (by dsimp only; omega))).trans ((ah ?_).trans ?_)
    · simp only [t1, t2, hl, ho, Int.toNat_natCast, List.all_cons, List.all_nil, Bool.and_true, Bool.and_eq_true]
      exact ⟨⟨trivial, aK (by omega)⟩, aI (by omega), decide_eq_true (by omega), aK (by omega), decide_eq_true (by omega), aI (by omega), decide_eq_true (by omega), aK (by omega)⟩
    · simp only [OT.cn, t1, t2, Int.toNat_natCast, Nat.add_zero]
      rfl
  · exact OT.al (decide_eq_false (by dsimp only; omega))
def kX (w : List UInt8) : List UInt8 := w.take 128 ++ (List.replicate 128 (0 : UInt8)).drop w.length
theorem v9 {w : List UInt8} (h : w.length ≤ 128) : (kX w).length = 128 := by
  simp only [kX, List.length_append, List.length_take, List.length_drop, List.length_replicate]
  omega
def ajZ (n : Int) (s : List UInt64 × UInt64 × List UInt8) : List UInt8 := CD (ss s.1 (kX s.2.2) (s.2.1 + i2u (s.2.2.length : Int)) true) n.toNat
theorem Wd {n : Int} {d : Ig} {w : List UInt8} {h : List UInt64} (hh : h.length = 8) (hn0 : 0 ≤ n) (hn : n ≤ 64) : Nt (((), (), n, 0, ()), (d, w, h, List.replicate n.toNat 0, ())) = true := decide_eq_true ⟨rfl, hh, hn, hn0, rfl⟩
def NB (p : List UInt8) (n : Int) (b : List UInt8) : List UInt8 := ajZ n (gU (ar0 p n, 0, []) b)
def Ns (x : adh) : Bool := decide (0 ≤ x.2.1.1 ∧ x.2.1.1 ≤ 64 ∧ x.2.2.1.length ≤ 128)
def aol (x : adh) : OT pW.Y := .ok ⟨We, (((), ()), (x.2.1, (x.2.2.1, (ajZ x.2.1.1 (tH x.2.1 x.2.2.1), ()))))⟩
theorem arL : aa Try.prog 119 (pW.aE Ns aol) := aja Nt Wf arM _ _ fun x oy hp ho => by
  rw [← ho]
  clear ho
  obtain ⟨⟨⟨⟩, ⟨⟩⟩, ⟨⟨n, h0, h1, h2, h3, h4, h5, h6, h7, ⟨⟩, c, ⟨⟩⟩, w, ⟨⟩⟩⟩ := x
  have hp' := of_decide_eq_true hp
  dsimp only at hp'
  obtain ⟨hn0, hn, hw⟩ := hp'
  have t1 : w.take 128 ++ List.drop w.length (List.replicate 128 (0 : UInt8)) = kX w := rfl
  have t2 : tab (kX w) 128 0 = kX w := gV (v9 hw)
  have t3 : min w.length 128 = w.length := by omega
  have hc : ∀ c, (ss [h0, h1, h2, h3, h4, h5, h6, h7] (kX w) c true).length = 8 := fun c => pN rfl
  have t4 : ∀ c, tab (ss [h0, h1, h2, h3, h4, h5, h6, h7] (kX w) c true) 8 0 = ss [h0, h1, h2, h3, h4, h5, h6, h7] (kX w) c true := fun c => gV (hc c)
  have t5 : ((List.replicate n.toNat (0 : UInt8)).length : Int) = n := by simp; omega
  refine (ah ?_).trans ?_
  · simp only [t1, t2, t3, t4, t5, v9 hw, List.all_cons, List.all_nil, Bool.and_true, Bool.and_eq_true]
    exact ⟨rfl, ⟨⟨⟨decide_eq_true hn0, decide_eq_true (Int.le_refl _)⟩, decide_eq_true (by omega)⟩, decide_eq_true (by omega)⟩, Wd (hc _) hn0 hn⟩
  · simp only [t1, t2, t3, t4, t5, Wf]
    rfl
def F5 : bL := (pW.aE Ns aol)
theorem adg : aa Try.prog 119 F5 := arL
theorem adf : aB F5 := ax
def ajX : Env := av 119 F5 sj
theorem ajW : aN Try.prog ajX := ag adg n9
theorem W6 : aq ajX := ab adf xY
end Go.Proofs.Ytohjofabochgfaa
