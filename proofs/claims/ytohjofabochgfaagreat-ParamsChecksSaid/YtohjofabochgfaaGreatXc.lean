/- A symbolic machine for Go code over plain data, and functions of the program as it shows them. No statement is proved in this file. -/
import Derived.ProofKit
import Derived.Below
import Derived.OpenShut
import Derived.SizedLaws
import Derived.WalkKit
import Derived.ChangeOld
import Derived.Test.YtohjofabochgfaaGreatProg
import Derived.KernelRfl
import Derived.Laws.Externs
import Derived.Lib.Mul64
import Derived.Test.YtohjofabochgfaaGreatXb
set_option linter.unusedSimpArgs false
set_option linter.unusedVariables false
set_option linter.unusedSectionVars false

namespace Go.Proofs.YtohjofabochgfaaGreat
namespace Sx
open Go
theorem jb : ∀ {l : List (Nat × Sh)} {x : SlT l} {tm : List SV}, (dM l x tm).length = tm.length
  | [], _, _ => rfl
  | c :: r, x, tm => by simp only [dM, jb, List.length_set]
theorem pr : ∀ {rs : List Sh} {i j : Nat} {x : SlT (indexed j rs)} {tm : List SV}, i < j → (dM (indexed j rs) x tm)[i]? = tm[i]?
  | [], _, _, _, _, _ => rfl
  | s :: r, i, j, x, tm, h => by
    simp only [indexed, dM]
    refine (pr (rs := r) (i := i) (j := j + 1) (x := x.2) (by omega)).trans ?_
    rw [List.getElem?_set_ne (by omega)]
theorem mr {N R : Ctx} {ν : Nm} {lists : Bool} (hr : Hm N R ν lists) : ∀ {rs : List Sh} (_ : lists = true ∨ rs.any Sh.cm = false) {i : Nat} {y : SlT (indexed i rs)} {tm : List SV} {us : List Value}, tm.length = i + rs.length →
    SV.bH N (dM (indexed i rs) y tm) us → SV.bH R (ao.emit.go ν i rs y) (us.drop i)
  | [], _, i, y, tm, us, hl, h => by
    have := SV.aK h
    simp only [indexed, dM] at this
    simp only [List.length_nil] at hl
    simp only [ao.emit.go]
    rw [List.drop_eq_nil_of_le (by omega)]
    exact n9
  | s :: r, hl', i, y, tm, us, hl, h => by
    have h1 : lists = true ∨ s.cm = false := hl'.imp_right fun e => by simp only [List.any_cons, Bool.or_eq_false_iff] at e; exact e.1
    have h2 : lists = true ∨ r.any Sh.cm = false := hl'.imp_right fun e => by simp only [List.any_cons, Bool.or_eq_false_iff] at e; exact e.2
    simp only [List.length_cons] at hl
    have hlen := SV.aK h
    rw [jb] at hlen
    have hi : i < us.length := by omega
    have ih := mr hr h2 (i := i + 1) (y := y.2) (tm := tm.set i (m6 s y.1)) (us := us) (by rw [List.length_set]; omega) h
    have hi2 : i < (dM (indexed i (s :: r)) y tm).length := by rw [jb]; omega
    have hv := SV.jy h i hi2 hi
    have hg : (dM (indexed i (s :: r)) y tm)[i] = m6 s y.1 := by
      have : (dM (indexed i (s :: r)) y tm)[i]? = some (m6 s y.1) := by
        simp only [indexed, dM]
        refine (pr (rs := r) (i := i) (j := i + 1) (x := y.2) (by omega)).trans ?_
        rw [List.getElem?_set_self (by omega)]
      rw [List.getElem?_eq_getElem hi2] at this
      exact Option.some.inj this
    rw [hg] at hv
    simp only [ao.emit.go]
    rw [List.drop_eq_getElem_cons hi]
    simp only [SV.bH]
    exact ⟨_, _, rfl, HT hr h1 hv, ih⟩
theorem Bb {ν : Nm} : ∀ {rs : List Sh} {i : Nat} {y : SlT (indexed i rs)}, (ao.emit.go ν i rs y).length = rs.length
  | [], _, _ => rfl
  | s :: r, i, y => by simp only [ao.emit.go, List.length_cons, Bb]
theorem aeD {R : Ctx} {n : Nat} {x : SV} {v : Value} {l : List SV} (hv : SV.rel R x v) (hn : (YB n x).length = n) (hl : l.length = n) : ∃ us, SV.bH R (YB n x) us ∧ ∀ R', SV.bH R' l us → SV.rel R' (oneOf l) v := by
  unfold YB at hn ⊢
  cases hb : Nat.beq n 1
  · rw [hb] at hn
    simp only [cond_false] at hn ⊢
    have hne : n ≠ 1 := fun e => by subst e; cases hb
    cases x <;> simp only [List.length_replicate] at hn ⊢ <;> try omega
    case tup q =>
      simp only [SV.rel] at hv
      obtain ⟨vs, rfl, h1⟩ := hv
      refine ⟨vs, h1, fun R' h2 => ?_⟩
      cases l with
      | nil => simp only [oneOf, SV.rel]; exact ⟨vs, rfl, h2⟩
      | cons a l =>
        cases l with
        | nil => simp at hl; omega
        | cons b l => simp only [oneOf, SV.rel]; exact ⟨vs, rfl, h2⟩
  · have := Nat.eq_of_beq_eq_true hb
    subst this
    simp only [cond_true]
    refine ⟨[v], aR hv, fun R' h2 => ?_⟩
    cases l with
    | nil => simp at hl
    | cons a l =>
      cases l with
      | nil =>
        simp only [oneOf]
        obtain ⟨v', e, h⟩ := b9 h2
        cases e
        exact h
      | cons b l => simp at hl
section
variable {P : Program} {te : TE} {Φ : Env} (hte : j3 P te) (hΦ : aQ P Φ) (hany : aV P te Φ)
theorem aa0 {R N1 : Ctx} {w w' : World} {S : ao} {args : List SV} {x : S.T} {k d : Nat} (hm : cN R w) (hx : S.inp.prj ⟨args, R.hp⟩ = some x)
    (hk : S.chunks.all (fun c => Nat.blt c.1 k && !c.2.sD) = true)
    (h1 : (R.named (R.wK (S.inp.bd ⟨args, R.hp⟩) S.bw w) (R.CQ (S.inp.bd ⟨args, R.hp⟩) S.bw w) (S.inp.bd ⟨args, R.hp⟩) (dc S.chunks x.2)).Ext N1) (hm1 : cN N1 w') {o : aw} {y : (o.shape S.fixed).T} {pan : Bool} {v : SV} {u : Value}
    (hv : SV.rel N1 v u) (hy : o.is y pan v N1.hp) (hend : S.qC (S.inp.bd ⟨args, R.hp⟩) R.hp (fresh R.hp d) o = true) :
    ∃ R', dJ R R' w' (cw (S.inp.bd ⟨args, R.hp⟩) R.hp S.fixed S.chunks ++ ij (S.nm (S.inp.bd ⟨args, R.hp⟩) R.hp (fresh R.hp d)) o.chunks y.2) ∧
      SV.rel R' (oneOf (ao.emit.indexedN (S.nm (S.inp.bd ⟨args, R.hp⟩) R.hp (fresh R.hp d)) o.rs y.1)) u := by
  obtain ⟨_, hy⟩ := hy
  unfold Shape.prj at hx
  dsimp only at hx
  generalize hbd : S.inp.bd ⟨args, R.hp⟩ = bd at *
  cases hb : S.inp.CE ⟨args, R.hp⟩ bd && Nat.beq args.length S.inp.n
  · rw [hb] at hx; cases hx
  · rw [hb] at hx
    rw [Bool.and_eq_true] at hb
    obtain ⟨hx1, hx2⟩ := bn hx
    have hy' := hy
    unfold Shape.prj at hy'
    dsimp only at hy'
    cases hb2 : (o.shape S.fixed).CE ⟨YB o.rs.length v, N1.hp⟩ ((o.shape S.fixed).bd ⟨YB o.rs.length v, N1.hp⟩) && Nat.beq (YB o.rs.length v).length (o.shape S.fixed).n
    · rw [hb2] at hy'; cases hy'
    · rw [hb2] at hy'
      rw [Bool.and_eq_true] at hb2
      obtain ⟨hy1, hy2⟩ := bn hy'
      have hlen : (YB o.rs.length v).length = o.rs.length := Nat.eq_of_beq_eq_true hb2.2
      obtain ⟨us, hus, hback⟩ := aeD (l := ao.emit.indexedN (S.nm bd R.hp (fresh R.hp d)) o.rs y.1) hv hlen Bb
      have hsm : Small ((R.named (R.wK bd S.bw w) (R.CQ bd S.bw w) bd (dc S.chunks x.2)).amd S.fixed) (o.shape S.fixed).fixed := fun c ch hc => by
        replace hc : cond (Nat.blt c S.fixed) (dc S.chunks x.2 c) none = some ch := hc
        cases hq : Nat.blt c S.fixed
        · rw [hq] at hc; cases hc
        · rw [hq] at hc
          refine ⟨da hq, ?_⟩
          obtain ⟨s, y', g1, g2, g3⟩ := dk hx2 (hc : dc S.chunks x.2 c = some ch)
          have := (List.all_eq_true.1 hk) _ g1
          simp only [Bool.and_eq_true, Bool.not_eq_true'] at this
          rw [g3]
          cases s <;> first | rfl | (cases this.2; done)
      have hext : ((R.named (R.wK bd S.bw w) (R.CQ bd S.bw w) bd (dc S.chunks x.2)).amd S.fixed).Ext N1 := ⟨h1.F, h1.U, fun c ch hc => by
        replace hc : cond (Nat.blt c S.fixed) (dc S.chunks x.2 c) none = some ch := hc
        cases hq : Nat.blt c S.fixed
        · rw [hq] at hc; cases hc
        · rw [hq] at hc
          exact h1.ch c ch hc⟩
      obtain ⟨N2, g1, g2⟩ := Shape.amE (s := o.shape S.fixed) (a := { tmps := us.toArray, defers := [] }) hsm hext ⟨rfl, hm1, hus, rfl⟩ hy
      have hd2 : distinct (o.chunks.map (·.1)) = true := by
        have := hb2.1
        unfold Shape.CE at this
        simp only [Bool.and_eq_true] at this
        exact this.1.1.1
      have H : ri R w w' S args bd x.2 N2 o y.2 (fresh R.hp d) := ⟨hm, hb.1, hx2, g1, g2.mem, g2.hp, ⟨_, _, _, hy2⟩, hd2, hend⟩
      refine ⟨R.cY bd w S N2 o y.2 (fresh R.hp d), Wp H, hback _ ?_⟩
      have ht := g2.tm
      have := mr (YD H) (rs := o.rs) ?_ (i := 0) (y := y.1) (tm := List.replicate o.rs.length .bt) (us := us) (by simp) ht
      · exact this
      · rcases lJ H with h | h
        · exact .inl (by rw [h]; rfl)
        · exact .inr h.1
include hte hΦ hany
theorem alQ {f : FuncId} {fn : Func} {c : Code} (hf : P.funcs[f]? = some fn) (hb : fn.body = some c) (hname : (fn.name == "runtime.NumGoroutine") = false) {S : ao} {k : Nat} (hk : S.chunks.all (fun c => Nat.blt c.1 k && !c.2.sD) = true) {Λ : Lam}
    (hΛ : ∀ R, Small R k → Bw P R Λ c) {n : Nat} {pre : S.T → Bool} {F : S.T → OT S.Y}
    (h : ∀ x oy, pre x = true → (F x).run = some oy → ∃ K Kp, wpf te Φ Λ n fn (S.inp.inj x).tm (S.inp.inj x).hp K Kp ∧ (∀ v hp, K v hp → oy.1.is oy.2 false v hp) ∧ ∀ v hp, Kp v hp → oy.1.is oy.2 true v hp) : ac P f (S.aD pre F) := by
  refine ⟨?_⟩
  intro R w d args vs out hm hr hrun
  refine .inl ⟨fn, hf, hname, by rw [hb]; rfl, ?_⟩
  simp only [ao.aD] at hrun
  split at hrun
  · cases hrun
  · rename_i x hx
    obtain ⟨hpre, h2⟩ := OT.aA hrun
    obtain ⟨oy, h3, h4⟩ := OT.run_bind h2
    unfold ao.emit at h4
    dsimp only at h4
    obtain ⟨hend, h5⟩ := OT.aA h4
    obtain ⟨K, Kp, hwp, hK1, hK2⟩ := h x oy hpre h3
    have hx' := hx
    unfold Shape.prj at hx'
    dsimp only at hx'
    cases hbo : S.inp.CE ⟨args, R.hp⟩ (S.inp.bd ⟨args, R.hp⟩) && Nat.beq args.length S.inp.n
    · rw [hbo] at hx'; cases hx'
    · rw [hbo] at hx'
      rw [Bool.and_eq_true] at hbo
      obtain ⟨hx1, hx2⟩ := bn hx'
      have hlen : args.length = S.inp.n := Nat.eq_of_beq_eq_true hbo.2
      have hN := F2 (s := S.inp) (st := ⟨args, R.hp⟩) (F' := R.wK (S.inp.bd ⟨args, R.hp⟩) S.bw w) (U' := R.CQ (S.inp.bd ⟨args, R.hp⟩) S.bw w) hbo.1 hx2 rfl hm (JS hm) (Gq hm) aaz (JR hm) JQ agX hm.env
      have hargs : SV.bH (R.named (R.wK (S.inp.bd ⟨args, R.hp⟩) S.bw w) (R.CQ (S.inp.bd ⟨args, R.hp⟩) S.bw w) (S.inp.bd ⟨args, R.hp⟩) (dc S.chunks x.2)) (S.inp.inj x).tm vs :=
        jE (s := S.inp) (st := ⟨args, R.hp⟩) hbo.1 hx2 rfl hm (JS hm) (Gq hm) hr hx1 (SV.uj (by rw [List.length_replicate, ← hlen]; exact SV.aK hr) fun i hi hi' => by simp [SV.rel])
      have hsm : Small (R.named (R.wK (S.inp.bd ⟨args, R.hp⟩) S.bw w) (R.CQ (S.inp.bd ⟨args, R.hp⟩) S.bw w) (S.inp.bd ⟨args, R.hp⟩) (dc S.chunks x.2)) k := fun c ch hc => by
        obtain ⟨s, y', g1, g2, g3⟩ := dk hx2 (hc : dc S.chunks x.2 c = some ch)
        have := (List.all_eq_true.1 hk) _ g1
        simp only [Bool.and_eq_true, Bool.not_eq_true'] at this
        refine ⟨da this.1, ?_⟩
        rw [g3]
        cases s <;> first | rfl | (cases this.2; done)
      refine (WY hte hΦ hany hf hb (hΛ _ hsm) hN hargs hwp).mono fun en w' hp => ?_
      rcases hp with ⟨y, v, R₁, rfl, hx1, hm1, hv, hy⟩ | ⟨y, v, R₁, rfl, hx1, hm1, hv, hy⟩
      · replace hy := hK1 _ _ hy
        obtain ⟨R', a1, a2⟩ := aa0 hm hx hk hx1 hm1 hv hy hend
        rw [hy.1] at h5
        cases h5
        exact ⟨v, R', rfl, a1, a2⟩
      · replace hy := hK2 _ _ hy
        obtain ⟨R', a1, a2⟩ := aa0 hm hx hk hx1 hm1 hv hy hend
        rw [hy.1] at h5
        cases h5
        exact ⟨v, R', rfl, a1, a2⟩
end
end Sx
end Go.Proofs.YtohjofabochgfaaGreat

namespace Go.Proofs.YtohjofabochgfaaGreat
namespace Sx
open Go
theorem K4 {b : Bd} {n m : Nat} {o o' : Option Nat} (h : cD b m = some o') : cD (OM b n o) m = some o' := by
  unfold OM
  split
  · exact h
  · rename_i hn
    simp only [cD]
    cases hb : Nat.beq n m
    · exact h
    · have := Nat.eq_of_beq_eq_true hb
      subst this
      rw [h] at hn
      cases hn
theorem wQ : ∀ {ns : List Nat} {l : List SV} {b : Bd} {m : Nat} {o : Option Nat}, cD b m = some o → cD (yq ns l b) m = some o
  | [], _, _, _, _, h => h
  | n :: ns, [], _, _, _, h => h
  | n :: ns, y :: r, b, m, o, h => by
    cases y <;> simp only [yq] <;> first | exact h | exact wQ (K4 h)
theorem OJ {s : Sh} {x : SV} {b : Bd} {m : Nat} {o : Option Nat} (h : cD b m = some o) : cD (He s x b) m = some o := by
  unfold He
  split <;> first | exact h | exact K4 h | exact wQ h
theorem lO : ∀ {l : List Sh} {cs : List SV} {b : Bd} {m : Nat} {o : Option Nat}, cD b m = some o → cD (kP l cs b) m = some o
  | [], _, _, _, _, h => h
  | s :: r, cs, b, m, o, h => by
    simp only [kP]
    exact lO (OJ h)
theorem j2 {hp : Hp} : ∀ {l : List (Nat × CSh)} {b : Bd} {m : Nat} {o : Option Nat}, cD b m = some o → cD (dH hp l b) m = some o
  | [], _, _, _, h => h
  | (n, s) :: r, b, m, o, h => by
    cases s <;> simp only [dH]
    case cells l =>
      refine j2 ?_
      split
      · split
        · exact lO h
        · exact h
      · exact h
    all_goals exact j2 h
section
variable {d : Nat} {hp hp' : Hp} (hg : WA d hp hp')
include hg
theorem gP : ∀ {l : List (Nat × CSh)} {b : Bd}, (∀ q ∈ l, ∀ c, cD (dH hp l b) q.1 = some (some c) → hp c ≠ none) → dH hp' l b = dH hp l b
  | [], _, _ => rfl
  | (n, s) :: r, b, h => by
    cases s <;> simp only [dH] at h ⊢
    case cells l =>
      have e : (match cD b n with | some (some c) => (match hp' c with | some ⟨_, .cells vs⟩ => kP l vs b | _ => b) | _ => b) = (match cD b n with | some (some c) => (match hp c with | some ⟨_, .cells vs⟩ => kP l vs b | _ => b) | _ => b) := by
        split
        · rename_i c hc
          have h1 := h (n, .cells l) (by simp) c (j2 (by
            split
            · split
              · exact lO hc
              · exact hc
            · exact hc))
          cases hq : hp c with
          | none => exact absurd hq h1
          | some ch => rw [hg.ja _ _ hq]
        · rfl
      exact (congrArg (dH hp' r) e).trans (gP fun q hq c hc => h q (List.mem_cons_of_mem _ hq) c hc)
    all_goals exact gP fun q hq c hc => h q (List.mem_cons_of_mem _ hq) c hc
theorem lE {bd : Bd} {n c e : Nat} (h : vm bd hp n c e = true) : vm bd hp' n c e = true := by
  unfold vm at h ⊢
  split at h
  · rename_i c' hc
    rw [Bool.and_eq_true] at h
    have h2 := h.2
    split at h2
    · rename_i ch hch
      rw [hg.ja _ _ hch]
      simp only
      rw [h.1, h2]
      rfl
    · cases h2
  · cases h
theorem s6 {bd : Bd} : ∀ {ns : List Nat} {l : List SV}, qM bd hp ns l = true → qM bd hp' ns l = true
  | [], [], _ => rfl
  | [], _ :: _, h => by cases h
  | n :: ns, [], h => by cases h
  | n :: ns, y :: r, h => by
    cases y <;> simp only [qM] at h ⊢ <;> try (cases h; done)
    simp only [Bool.and_eq_true] at h ⊢
    exact ⟨⟨⟨lE hg h.1.1.1, h.1.1.2⟩, h.1.2⟩, s6 h.2⟩
theorem NL {bd : Bd} {s : Sh} {cs : List SV} (h : js bd hp s cs = true) : js bd hp' s cs = true := by
  unfold js at h ⊢
  split at h
  · exact lE hg h
  · exact h
  · simp only [Bool.and_eq_true] at h ⊢
    exact ⟨⟨lE hg h.1.1, h.1.2⟩, h.2⟩
  · simp only [Bool.and_eq_true] at h ⊢
    exact ⟨h.1, s6 hg h.2⟩
  · simp only [Bool.and_eq_true] at h ⊢
    exact ⟨h.1, lE hg h.2.1, h.2.2⟩
  · rfl
  · rfl
  · rfl
  · cases h
theorem Hi {ok : Nat → Bool} {t : Ty} {x : SV} {ys : List t.T} (h : vN ok t hp x = some ys) : vN ok t hp' x = some ys := by
  have key : ∀ {c : Nat} {f : Option Ch → Option (List t.T)}, f none = none → f (hp c) = some ys → f (hp' c) = some ys := fun {c f} h0 h => by
    cases hq : hp c with
    | none => rw [hq, h0] at h; cases h
    | some ch => rw [hg.ja _ _ hq, ← hq]; exact h
  cases x <;> simp only [vN] at h ⊢ <;> try (first | exact h | (cases h; done))
  case own c e => exact key (c := c) (f := fun o => match o with | some ⟨ep, .row t' xs⟩ => cond (Nat.beq ep e && ok c) (bK t t' xs) none | some ⟨ep, .frz t' xs⟩ => cond (Nat.beq ep e) (bK t t' xs) none | _ => none) rfl h
  case clip c e => exact key (c := c) (f := fun o => match o with | some ⟨ep, .row t' xs⟩ => cond (Nat.beq ep e && ok c) (bK t t' xs) none | some ⟨ep, .frz t' xs⟩ => cond (Nat.beq ep e) (bK t t' xs) none | _ => none) rfl h
  case part c e off len => exact key (c := c) (f := fun o => match o with | some ⟨ep, .row t' xs⟩ => cond (Nat.beq ep e && ok c) ((bK t t' xs).map fun l => (l.drop off).take len) none | some ⟨ep, .frz t' xs⟩ => cond (Nat.beq ep e) ((bK t t' xs).map fun l => (l.drop off).take len) none | _ => none) rfl h
theorem lu {ok : Nat → Bool} : ∀ {t : Ty} {cs : List SV} {x : t.T}, qi ok hp t cs = some x → qi ok hp' t cs = some x
  | .bool, _, _, h => h
  | .u64, _, _, h => h
  | .u8, _, _, h => h
  | .int, _, _, h => h
  | .str, _, _, h => h
  | .elem, _, _, h => h
  | .prod a b, cs, x, h => by
    obtain ⟨h1, h2⟩ := bn h
    simp only [qi, lu h1, lu h2, mU]
  | .arr n t, cs, x, h => by
    simp only [qi] at h ⊢
    split at h
    · rename_i hl
      rw [if_pos hl]
      exact ia (fun _ _ => lu) h
    · cases h
  | .list t, cs, x, h => by
    simp only [qi] at h ⊢
    split at h
    · rename_i hp0
      rw [if_pos hp0]
      obtain ⟨y, rfl, hy⟩ := kt h
      simp only [agR]
      exact Hi hg hy
    · cases h
omit hg in
theorem Nc {a b : Bool} {x : Unit} (hab : a = true → b = true) (h : CN a = some x) : CN b = some x := by
  rw [hab (fR h)]; rfl
theorem wB {bd : Bd} {ok : Nat → Bool} {s : Sh} {cs : List SV} {x : s.T} (h : mO bd ok hp s cs = some x) : mO bd ok hp' s cs = some x := by
  cases s <;> simp only [mO] at h ⊢
  case val b t => exact lu hg h
  all_goals exact Nc (NL hg) h
theorem FN {bd : Bd} {ok : Nat → Bool} {s : Sh} {y : SV} {x : s.T} (h : uY bd ok hp s y = some x) : uY bd ok hp' s y = some x := by
  unfold uY at h ⊢
  split at h
  · exact wB hg h
  · cases h
theorem pq {bd : Bd} {ok : Nat → Bool} : ∀ {l : List Sh} {cs : List SV} {x : ShT l}, jF bd ok hp l cs = some x → jF bd ok hp' l cs = some x
  | [], [], _, h => h
  | [], _ :: _, _, h => by cases h
  | s :: r, cs, x, h => by
    obtain ⟨h1, h2⟩ := bn (show mU (mO bd ok hp s (cs.take s.size)) (jF bd ok hp r (cs.drop s.size)) = some x from h)
    show mU (mO bd ok hp' s (cs.take s.size)) (jF bd ok hp' r (cs.drop s.size)) = some x
    rw [wB hg h1, pq h2]
    rfl
theorem pn {bd : Bd} {ok : Nat → Bool} {tm : List SV} : ∀ {l : List (Nat × Sh)} {x : SlT l}, ov bd ok hp tm l = some x → ov bd ok hp' tm l = some x
  | [], _, h => h
  | c :: r, x, h => by
    obtain ⟨h1, h2⟩ := bn h
    simp only [ov, FN hg h1, pn h2, mU]
    rfl
theorem CM {bd : Bd} {ok : Nat → Bool} {s : CSh} {b : Chunk} {x : s.T} (h : ff bd ok hp s b = some x) : ff bd ok hp' s b = some x := by
  cases s <;> cases b <;> simp only [ff] at h ⊢ <;> first | exact h | exact pq hg h
theorem Jb {bd : Bd} {ok : Nat → Bool} {n : Nat} {s : CSh} {x : s.T} (h : gR bd ok hp n s = some x) : gR bd ok hp' n s = some x := by
  unfold gR at h ⊢
  split at h
  · split at h
    · rename_i ch hch
      rw [hg.ja _ _ hch]
      exact CM hg h
    · cases h
  · exact h
  · exact h
theorem mP {bd : Bd} {ok : Nat → Bool} : ∀ {l : List (Nat × CSh)} {x : CD l}, dg bd ok hp l = some x → dg bd ok hp' l = some x
  | [], _, h => h
  | c :: r, x, h => by
    obtain ⟨h1, h2⟩ := bn h
    simp only [dg, Jb hg h1, mP h2, mU]
    rfl
omit hg in
theorem lq {bd : Bd} {ok : Nat → Bool} : ∀ {l : List (Nat × CSh)} {x : CD l}, dg bd ok hp l = some x → ∀ q ∈ l, ∀ c, cD bd q.1 = some (some c) → hp c ≠ none
  | [], _, _, _, hq, _, _ => by cases hq
  | c :: r, x, h, q, hq, c', hb => by
    obtain ⟨h1, h2⟩ := bn h
    rcases List.mem_cons.1 hq with he | he
    · subst he
      unfold gR at h1
      rw [hb] at h1
      simp only at h1
      intro hn
      rw [hn] at h1
      cases h1
    · exact lq h2 q he c' hb
theorem ZJ {s : Shape} (hfx : s.fixed = 0) {tm : List SV} {x : s.T} (h : s.prj ⟨tm, hp⟩ = some x) : s.prj ⟨tm, hp'⟩ = some x ∧ s.bd ⟨tm, hp'⟩ = s.bd ⟨tm, hp⟩ := by
  unfold Shape.prj at h ⊢
  dsimp only at h ⊢
  cases hb : s.CE ⟨tm, hp⟩ (s.bd ⟨tm, hp⟩) && Nat.beq tm.length s.n
  · rw [hb] at h; cases h
  · rw [hb] at h
    obtain ⟨h1, h2⟩ := bn h
    have e : s.bd ⟨tm, hp'⟩ = s.bd ⟨tm, hp⟩ := gP hg (lq h2)
    have e2 : s.CE ⟨tm, hp'⟩ (s.bd ⟨tm, hp⟩) = s.CE ⟨tm, hp⟩ (s.bd ⟨tm, hp⟩) := by
      unfold Shape.CE
      rw [hfx]
      rfl
    refine ⟨?_, e⟩
    rw [e, e2, hb, cond_true, pn hg h1, mP hg h2]
    rfl
theorem Es {c : Nat} (h : hp c ≠ none) : Tj hp' c = Tj hp c := by
  unfold Tj
  cases hq : hp c with
  | none => exact absurd hq h
  | some ch => rw [hg.ja _ _ hq]
theorem rp {bd : Bd} {fixed : Nat} : ∀ {l : List (Nat × CSh)}, (∀ q ∈ l, ∀ c, cD bd q.1 = some (some c) → hp c ≠ none) → cw bd hp' fixed l = cw bd hp fixed l
  | [], _ => rfl
  | c :: r, h => by
    have ih := rp (bd := bd) (fixed := fixed) (l := r) fun q hq => h q (List.mem_cons_of_mem _ hq)
    simp only [cw, ih]
    cases Nat.blt c.1 fixed
    · simp only [cond_false]
      split
      · rename_i o ho
        rw [Es hg (h c (by simp) o ho)]
      · rfl
    · rfl
theorem afY {S : ao} {pre : S.T → Bool} {F : S.T → OT S.Y} {args : List SV} {out : Out} (h : ((S.aD pre F).f d args hp).run = some out) : ((S.aD pre F).f d args hp').run = some out := by
  simp only [ao.aD] at h ⊢
  split at h
  · cases h
  · rename_i x hx
    obtain ⟨e1, e2⟩ := ZJ hg (s := S.inp) rfl hx
    rw [e1]
    simp only
    rw [e2]
    obtain ⟨h1, h2⟩ := OT.aA h
    rw [h1]
    obtain ⟨oy, h3, h4⟩ := OT.run_bind h2
    have hold : ∀ q ∈ S.chunks, ∀ c, cD (S.inp.bd ⟨args, hp⟩) q.1 = some (some c) → hp c ≠ none := by
      have hx' := hx
      unfold Shape.prj at hx'
      dsimp only at hx'
      cases hb : S.inp.CE ⟨args, hp⟩ (S.inp.bd ⟨args, hp⟩) && Nat.beq args.length S.inp.n
      · rw [hb] at hx'; cases hx'
      · rw [hb] at hx'
        obtain ⟨_, h2⟩ := bn hx'
        exact lq h2
    have hbok : ∀ p ∈ S.inp.bd ⟨args, hp⟩, ∃ q ∈ S.chunks, q.1 = p.1 := by
      have hx' := hx
      unfold Shape.prj at hx'
      dsimp only at hx'
      cases hb : S.inp.CE ⟨args, hp⟩ (S.inp.bd ⟨args, hp⟩) && Nat.beq args.length S.inp.n
      · rw [hb] at hx'; cases hx'
      · rw [Bool.and_eq_true] at hb
        have := hb.1
        unfold Shape.CE at this
        simp only [Bool.and_eq_true, List.all_eq_true, List.any_eq_true] at this
        intro p hp
        obtain ⟨q, hq, he⟩ := this.1.2 p hp
        exact ⟨q, hq, Nat.eq_of_beq_eq_true he⟩
    have hepN : ∀ n c, cD (S.inp.bd ⟨args, hp⟩) n = some (some c) → Tj hp' c = Tj hp c := fun n c hc => by
      obtain ⟨q, hq, he⟩ := hbok _ (ib hc)
      exact Es hg (hold q hq c (by rw [he]; exact hc))
    unfold ao.emit at h4
    dsimp only at h4
    obtain ⟨hend, h5⟩ := OT.aA h4
    -- the names
    have hfr : fresh hp' d = fresh hp d := fW hg
    have hnm : ∀ n, S.fixed ≤ n ∨ (∃ c, cD (S.inp.bd ⟨args, hp⟩) n = some (some c)) → S.nm (S.inp.bd ⟨args, hp⟩) hp' (fresh hp d) n = S.nm (S.inp.bd ⟨args, hp⟩) hp (fresh hp d) n := fun n hn => by
      unfold ao.nm
      cases hb : Nat.blt n S.fixed
      · rfl
      · rcases hn with hn | ⟨c, hn⟩
        · have := da hb; omega
        · simp only [cond_true, nameOf, hn, hepN n c hn]
    have hnmall : S.nm (S.inp.bd ⟨args, hp⟩) hp' (fresh hp d) = S.nm (S.inp.bd ⟨args, hp⟩) hp (fresh hp d) := by
      funext n
      rcases Nat.lt_or_ge n S.fixed with hn | hn
      · refine hnm n (.inr ?_)
        have he := hend
        unfold ao.qC at he
        simp only [Bool.and_eq_true, List.all_eq_true] at he
        have h6 := (he.2.1 n (by simpa using hn)).1
        split at h6
        · rename_i c hc; exact ⟨c, hc⟩
        · cases h6
      · exact hnm n (.inl hn)
    have hend' : S.qC (S.inp.bd ⟨args, hp⟩) hp' (fresh hp d) oy.1 = true := by
      have he := hend
      unfold ao.qC at he ⊢
      simp only [Bool.and_eq_true] at he ⊢
      refine ⟨he.1, he.2.1, he.2.2.1, ?_⟩
      have h6 := he.2.2.2
      simp only [List.all_eq_true, Bool.and_eq_true, Bool.or_eq_true] at h6 ⊢
      intro q hq
      refine ⟨(h6 q hq).1, (h6 q hq).2.imp_right fun h7 => ⟨h7.1, ?_⟩⟩
      have h8 := h7.2
      have hlt := da h7.1
      cases hz : hp (fresh hp d + (q.1 - S.fixed)) with
      | some ch => rw [hz] at h8; cases h8
      | none =>
        rw [hg.free _ ?_ hz]
        · rfl
        · obtain ⟨k, hk1, hk2⟩ : ∃ k, k ≤ 4000 ∧ fresh hp d = (d + 1) * 4096 + k := by
            have : ∀ (n k : Nat), n + k ≤ 4000 → ∃ j, j ≤ 4000 ∧ dl hp d n k = (d + 1) * 4096 + j := by
              intro n
              induction n with
              | zero => intro k hk; exact ⟨k, by omega, rfl⟩
              | succ n ih =>
                intro k hk
                simp only [dl]
                split
                · exact ⟨k, by omega, rfl⟩
                · exact ih (k + 1) (by omega)
            exact this 4000 0 (by omega)
          rw [hk2]
          unfold hJ
          omega
    have hem : (S.emit (S.inp.bd ⟨args, hp⟩) d hp' oy.1 oy.2).run = some out := by
      unfold ao.emit
      dsimp only
      rw [hfr, hend', hnmall, rp hg hold]
      exact h5
    have hbind : ∀ {α β : Type} (t : OT α) (f : α → OT β) (a : α) (b : β), t.run = some a → (f a).run = some b → (t.bind f).run = some b := by
      intro α β t f a b h1 h2
      induction t with
      | ok a' => cases h1; exact h2
      | br c u v hu hv =>
        cases c
        · exact hv h1
        · exact hu h1
      | fail => cases h1
    exact hbind (F x) _ oy out h3 hem
end
theorem az {S : ao} {pre : S.T → Bool} {F : S.T → OT S.Y} : aF (S.aD pre F) := fun _ _ _ _ _ hg h => afY hg h
end Sx
end Go.Proofs.YtohjofabochgfaaGreat

namespace Go.Proofs.YtohjofabochgfaaGreat
namespace Sx
open Go
def OT.wpR {α : Type} (t : OT α) (K : α → Prop) : Prop :=
  OT.rec (motive := fun _ => Prop) (fun a => K a) (fun b _ _ x y => Bool.rec (motive := fun _ => Prop) y x b) False t
theorem OT.WZ {α : Type} (t : OT α) (K : α → Prop) : t.wpR K = t.wp K := by
  induction t with
  | ok b => rfl
  | br b x y hx hy =>
    cases b
    · exact hy
    · exact hx
  | fail => rfl
theorem OT.yC {α : Type} {t : OT α} {a : α} {K : α → Prop} (h : t.run = some a) (hk : K a) : t.wp K := by
  induction t with
  | ok b => cases h; exact hk
  | br b x y hx hy =>
    cases b
    · exact hy h
    · exact hx h
  | fail => cases h
def al (fn : Func) : Code := fn.body.getD .skip
abbrev aL := Sigma fun p : SE × Shape => p.2.T
def cM (sh : Shape) (xs : SE → Option Shape) (Q : Sum sh.T aL → Prop) (e : SE) (st : St) : Prop := match e with
  | .normal => sh.on st fun s => Q (.inl s)
  | e => match xs e with
    | none => False
    | some s => s.on st fun x => Q (.inr ⟨(e, s), x⟩)
def aq {σ ε : Type} (T : σ → OT (Sum σ ε)) : Nat → σ → Option ε
  | 0, _ => none
  | n + 1, s => match (T s).run with
    | some (.inl s') => aq T n s'
    | some (.inr e) => some e
    | none => none
def db (sh : Shape) (id : Nat) (ok : sh.T → Bool) (f : sh.T → OT aL) (st : St) (K : SE → St → Prop) : Prop :=
  sh.on st fun s => cond (ok s) ((f s).wp fun e => K (abm id e.1.1) (e.1.2.inj e.2)) False
section
variable {P : Program} {te : TE} {Φ : Env} (hte : j3 P te) (hΦ : aQ P Φ) (hany : aV P te Φ)
include hte hΦ hany
theorem afJ {R₀ : Ctx} {sh : Shape} (h0 : Small R₀ sh.fixed) {xs : SE → Option Shape} (hxs : ∀ e s, xs e = some s → Small R₀ s.fixed) (hpan : ∀ v, xs (.pan v) = none) {Λ : Lam} {body : Code} (hΛ : Bw P R₀ Λ body)
    {id n : Nat} {T : sh.T → OT (Sum sh.T aL)} (hT : ∀ s Q, wps te Φ Λ n body (sh.inj s) (cM sh xs Q) = (T s).wpR Q) :
    HH P R₀ (.block id (.loop body)) fun st K => sh.on st fun s => ∃ m e, aq T m s = some e ∧ K (abm id e.1.1) (e.1.2.inj e.2) := by
  intro R st a w K Q hx hst hl hK
  obtain ⟨s, R', ⟨m, e, hr, hk⟩, hx', hst'⟩ := Shape.FY h0 hx hst hl
  refine wp_block (wo ?_)
  clear hl hst hx
  induction m generalizing s R' a w with
  | zero => cases hr
  | succ m ih =>
    simp only [aq] at hr
    cases ht : (T s).run with
    | none => rw [ht] at hr; cases hr
    | some o =>
      rw [ht] at hr
      have hw : wps te Φ Λ n body (sh.inj s) (cM sh xs (fun z => z = o)) := by
        rw [hT, OT.WZ]; exact OT.yC ht rfl
      refine Ak (HL (R₀ := R₀) hte hΦ hany hΛ hx' hst' hw ⟨?_, ?_, ?_, ?_⟩)
      · intro R1 st1 a1 w1 hx1 hst1 hk1
        obtain ⟨s', R2, g1, g4, g5⟩ := Shape.FY h0 hx1 hst1 (hk1 : sh.on st1 _)
        subst g1
        exact ih a1 w1 s' R2 hr g4 g5
      · intro R1 st1 a1 w1 hx1 hst1 hk1
        simp only [cM] at hk1
        split at hk1
        · exact hk1.elim
        · rename_i sh' he
          obtain ⟨x, R2, g1, g2, g3⟩ := Shape.FY (hxs _ sh' he) hx1 hst1 hk1
          subst g1
          cases hr
          exact hK.ret R2 _ a1 w1 g2 g3 hk
      · intro R1 st1 a1 w1 j hx1 hst1 hk1
        simp only [cM] at hk1
        split at hk1
        · exact hk1.elim
        · rename_i sh' he
          obtain ⟨x, R2, g1, g2, g3⟩ := Shape.FY (hxs _ sh' he) hx1 hst1 hk1
          subst g1
          cases hr
          simp only [abm] at hk
          simp only [Exit.inBlock]
          by_cases e : j = id
          · subst e
            rw [Nat.beq_refl, cond_true] at hk
            simp only [if_true]
            exact hK.normal R2 _ a1 w1 g2 g3 hk
          · have hb : Nat.beq j id = false := by
              cases hq : Nat.beq j id
              · rfl
              · exact absurd (Nat.eq_of_beq_eq_true hq) e
            rw [hb, cond_false] at hk
            simp only [e, if_false]
            exact hK.exit R2 _ a1 w1 j g2 g3 hk
      · intro R1 st1 a1 w1 sv v hx1 hst1 hv hk1
        simp only [cM, hpan] at hk1
theorem bo {R₀ : Ctx} {sh : Shape} (h0 : Small R₀ sh.fixed) {xs : SE → Option Shape} (hxs : ∀ e s, xs e = some s → Small R₀ s.fixed) (hpan : ∀ v, xs (.pan v) = none) {Λ : Lam} {body : Code} (hΛ : Bw P R₀ Λ body)
    {id n : Nat} {T : sh.T → OT (Sum sh.T aL)} (hT : ∀ s Q, wps te Φ Λ n body (sh.inj s) (cM sh xs Q) = (T s).wpR Q) {ok : sh.T → Bool} {f : sh.T → OT aL}
    (hf : ∀ s, ok s = true → ∃ m e, aq T m s = some e ∧ (f s).run = some e) : HH P R₀ (.block id (.loop body)) (db sh id ok f) := by
  intro R st a w K Q hx hst hl hK
  refine afJ hte hΦ hany h0 hxs hpan hΛ hT (id := id) R st a w K Q hx hst ?_ hK
  unfold db at hl
  unfold Shape.on at hl ⊢
  split at hl
  · rename_i s hs
    cases ho : ok s
    · rw [ho] at hl; exact hl.elim
    · rw [ho] at hl
      obtain ⟨m, e, h1, h2⟩ := hf s ho
      obtain ⟨e', h3, h4⟩ := OT.Pm hl
      rw [h2] at h3
      cases h3
      rw [hs]
      exact ⟨m, e, h1, h4⟩
  · exact hl.elim
def fnK (S : ao) (sel : SV → Option aw) (Q : S.Y → Prop) (v : SV) (hp : Hp) : Prop := match sel v with
  | some o => match (o.shape S.fixed).prj ⟨YB o.rs.length v, hp⟩ with
    | some y => Q ⟨o, y⟩
    | none => False
  | none => False
def akP (S : ao) : List aw → (S.Y → Prop) → SV → Hp → Prop
  | [], _, _, _ => False
  | o :: r, Q, v, hp => match (o.shape S.fixed).prj ⟨YB o.rs.length v, hp⟩ with
    | some y => Q ⟨o, y⟩
    | none => akP S r Q v hp
omit hte hΦ hany in
theorem J9 {S : ao} {Q : S.Y → Prop} {v : SV} {hp : Hp} : ∀ {outs : List aw}, akP S outs Q v hp → ∃ o ∈ outs, ∃ y, (o.shape S.fixed).prj ⟨YB o.rs.length v, hp⟩ = some y ∧ Q ⟨o, y⟩
  | [], h => h.elim
  | o :: r, h => by
    simp only [akP] at h
    split at h
    · rename_i y hy
      exact ⟨o, List.mem_cons_self .., y, hy, h⟩
    · obtain ⟨o', h1, h2⟩ := J9 h
      exact ⟨o', List.mem_cons_of_mem _ h1, h2⟩
theorem aB {f : FuncId} {fn : Func} {c : Code} (hf : P.funcs[f]? = some fn) (hb : fn.body = some c) (hname : (fn.name == "runtime.NumGoroutine") = false) {S : ao} {k : Nat} (hk : S.chunks.all (fun c => Nat.blt c.1 k && !c.2.sD) = true) {Λ : Lam}
    (hΛ : ∀ R, Small R k → Bw P R Λ c) {n : Nat} {sel : SV → Option aw} (hsel : ∀ v o, sel v = some o → o.pan = false) {pre : S.T → Bool} {F T : S.T → OT S.Y}
    (h : ∀ x Q, wpf te Φ Λ n fn (S.inp.inj x).tm (S.inp.inj x).hp (fnK S sel Q) (fun _ _ => False) = (T x).wpR Q)
    (hF : ∀ x oy, pre x = true → (F x).run = some oy → (T x).run = some oy) : ac P f (S.aD pre F) := by
  refine alQ hte hΦ hany hf hb hname hk hΛ (n := n) fun x oy hp hr => ⟨fnK S sel (fun z => z = oy), fun _ _ => False, ?_, fun v hp hq => ?_, fun _ _ hq => hq.elim⟩
  · rw [h, OT.WZ]; exact OT.yC (hF x oy hp hr) rfl
  · unfold fnK at hq
    split at hq
    · rename_i o ho
      split at hq
      · rename_i y hy
        subst hq
        exact ⟨hsel v o ho, hy⟩
      · exact hq.elim
    · exact hq.elim
theorem afX {f : FuncId} {fn : Func} {c : Code} (hf : P.funcs[f]? = some fn) (hb : fn.body = some c) (hname : (fn.name == "runtime.NumGoroutine") = false) {S : ao} {k : Nat} (hk : S.chunks.all (fun c => Nat.blt c.1 k && !c.2.sD) = true) {Λ : Lam}
    (hΛ : ∀ R, Small R k → Bw P R Λ c) {n : Nat} {outs : List aw} (hsel : (outs.all fun o => !o.pan) = true) {pre : S.T → Bool} {F T : S.T → OT S.Y}
    (h : ∀ x Q, wpf te Φ Λ n fn (S.inp.inj x).tm (S.inp.inj x).hp (akP S outs Q) (fun _ _ => False) = (T x).wpR Q)
    (hF : ∀ x oy, pre x = true → (F x).run = some oy → (T x).run = some oy) : ac P f (S.aD pre F) := by
  refine alQ hte hΦ hany hf hb hname hk hΛ (n := n) fun x oy hp hr => ⟨akP S outs (fun z => z = oy), fun _ _ => False, ?_, fun v hp hq => ?_, fun _ _ hq => hq.elim⟩
  · rw [h, OT.WZ]; exact OT.yC (hF x oy hp hr) rfl
  · obtain ⟨o, ho, y, hy, hQ⟩ := J9 hq
    subst hQ
    exact ⟨by have := List.all_eq_true.1 hsel o ho; simpa using this, hy⟩
end
end Sx
end Go.Proofs.YtohjofabochgfaaGreat

namespace Go.Proofs.YtohjofabochgfaaGreat
namespace Sx
open Go
def zeroCells : Ty → List Value
  | .bool => [.bool false]
  | .u64 => [eU 0]
  | .u8 => [vu8 0]
  | .int => [.int .i64 0]
  | .str => [.string ⟨#[]⟩]
  | .elem => [eU 0, eU 0, eU 0, eU 0]
  | .prod a b => zeroCells a ++ zeroCells b
  | .arr n t => (List.replicate n (zeroCells t)).flatten
  | .list _ => [.slice none 0 0]
theorem ca : ∀ t : Ty, (zeroCells t).length = t.size
  | .bool => rfl
  | .u64 => rfl
  | .u8 => rfl
  | .int => rfl
  | .str => rfl
  | .elem => rfl
  | .prod a b => by simp only [zeroCells, List.length_append, ca a, ca b, Ty.size]
  | .arr n t => by simp [zeroCells, ca t, Ty.size]
  | .list _ => rfl
theorem AR {c : List Value} {m : Nat} (hc : c.length = m) : ∀ (n i : Nat), i < n → seg (List.replicate n c).flatten (i * m) m = c
  | 0, _, h => by omega
  | n + 1, 0, _ => by
    simp only [seg, List.replicate_succ, List.flatten_cons, Nat.zero_mul, List.drop_zero, List.take_append, hc, Nat.sub_self, List.take_zero, List.append_nil]
    rw [← hc, List.take_length]
  | n + 1, i + 1, h => by
    have ih := AR hc n i (by omega)
    simp only [seg] at ih ⊢
    rw [List.replicate_succ, List.flatten_cons]
    have : (i + 1) * m = c.length + i * m := by rw [hc, Nat.add_mul]; omega
    rw [this, List.drop_append]
    simp only [Nat.add_sub_cancel_left]
    rw [List.drop_eq_nil_of_le (by omega), List.nil_append, ih]
theorem xU {F : Nat → Option Obj} : ∀ t : Ty, Rep F t t.d (zeroCells t)
  | .bool => rfl
  | .u64 => rfl
  | .u8 => rfl
  | .int => ⟨rfl, by decide⟩
  | .str => ⟨rfl, by simp [Ty.d]⟩
  | .elem => rfl
  | .prod a b => by
    refine ⟨by simp only [zeroCells, List.length_append, ca], ?_, ?_⟩
    · have : (zeroCells (.prod a b)).take a.size = zeroCells a := by
        simp only [zeroCells]
        rw [← ca a, List.take_left]
      rw [this]; exact xU a
    · have : (zeroCells (.prod a b)).drop a.size = zeroCells b := by
        simp only [zeroCells]
        rw [← ca a, List.drop_left]
      rw [this]; exact xU b
  | .arr n t => by
    refine ⟨ca _, by simp [Ty.d], fun i hi => ?_⟩
    have h1 : (Ty.d (.arr n t)).getD i t.d = t.d := by
      simp [Ty.d, List.getD_eq_getElem?_getD, List.getElem?_replicate, hi]
    rw [h1]
    simp only [zeroCells]
    rw [AR (ca t) n i hi]
    exact xU t
  | .list t => ⟨by simp [Ty.d], none, 0, rfl, by simp [Ty.d], .inl rfl⟩
def alX (P : Program) (T : TypeId) (d : TypeDesc) : TD → Bool
  | .struct fs => match d with
    | .struct fields => decide (fields.toList.map (fun f => (f.offset, f.type)) = fs) && fields.toList.all (fun f => !decide (f.name = "_")) && !P.stoodInHeld T &&
        (fields.toList.mapM (fun f => (P.info? f.type).map fun i => (f.offset, i.size))).isSome
    | _ => false
  | .array n e => match d with
    | .array n' e' => Nat.beq n n' && Nat.beq e e'
    | _ => false
  | .slice e => match d with
    | .slice e' => Nat.beq e e'
    | _ => false
  | .int k => match d with
    | .int k' => decide (k' = k)
    | _ => false
  | .bool => match d with
    | .bool => true
    | _ => false
  | .str => match d with
    | .string => true
    | _ => false
  | .ptr ms => match d with
    | .pointer _ => match P.info? T with
      | some i => ms.all fun nf => match i.methods.find? (fun q => q.name == nf.1) with
        | some m => m.path.toList.isEmpty && (match m.func with
          | some (f, b) => b && Nat.beq f nf.2
          | none => false)
        | none => false
      | none => false
    | _ => false
  | .iface => match d with
    | .interface _ => true
    | _ => false
  | .other => match d with
    | .struct _ => false
    | .array .. => false
    | _ => true
theorem af {P : Program} {T : TypeId} {ti : TI} (h1 : (P.info? T).isSome = true) (h4 : ((P.info? T).get h1).zero.isSome = true) (h10 : (P.underlying T).isSome = true)
    (hs : Nat.beq ((P.info? T).get h1).size ti.size = true) (hb : Nat.beq ((P.info? T).get h1).bytes ti.bytes = true)
    (hz : (((P.info? T).get h1).zero.get h4).cells.toList.map zD = ti.zero) (hc : ((((P.info? T).get h1).zero.get h4).cells.toList.all Value.oneCell') = true)
    (hn : Nat.beq (((P.info? T).get h1).zero.get h4).cells.size ti.size = true) (h8 : Nat.ble ti.size 16777216 = true) (h9 : (ti.desc.agg || Nat.beq ti.size 1) = true)
    (hd : alX P T ((P.underlying T).get h10) ti.desc = true)
    (ht : match ti.ty with
      | none => True
      | some t => Nat.beq t.size ti.size = true ∧ (((P.info? T).get h1).zero.get h4).cells.toList = zeroCells t ∧ (!ti.desc.agg || !P.eqGuardType P.depth T) = true) : aP P T ti := by
  have e1 : P.info? T = some ((P.info? T).get h1) := (Option.some_get h1).symm
  have e4 : ((P.info? T).get h1).zero = some (((P.info? T).get h1).zero.get h4) := (Option.some_get h4).symm
  refine ⟨⟨_, _, e1, Nat.eq_of_beq_eq_true hs, Nat.eq_of_beq_eq_true hb, e4, hz, Nat.eq_of_beq_eq_true hn, fun u hu => List.all_eq_true.1 hc u hu⟩, Nat.le_of_ble_eq_true h8, fun ha => ?_, ⟨_, (Option.some_get h10).symm, ?_⟩, fun t hty => ?_⟩
  · rw [ha, Bool.false_or] at h9
    exact Nat.eq_of_beq_eq_true h9
  · generalize (P.underlying T).get h10 = d at hd
    cases hdd : ti.desc <;> rw [hdd] at hd <;> simp only [alX] at hd <;> (try dsimp only)
    case struct fs =>
      split at hd
      · rename_i fields
        simp only [Bool.and_eq_true, decide_eq_true_eq, List.all_eq_true, Bool.not_eq_true', decide_eq_false_iff_not] at hd
        exact ⟨fields, rfl, hd.1.1.1, hd.1.1.2, hd.1.2, hd.2⟩
      · cases hd
    case array n e =>
      split at hd
      · rw [Bool.and_eq_true] at hd
        rw [Nat.eq_of_beq_eq_true hd.1, Nat.eq_of_beq_eq_true hd.2]
      · cases hd
    case slice e =>
      split at hd
      · rw [Nat.eq_of_beq_eq_true hd]
      · cases hd
    case int k =>
      split at hd
      · rw [of_decide_eq_true hd]
      · cases hd
    case bool =>
      split at hd
      · rfl
      · cases hd
    case str =>
      split at hd
      · rfl
      · cases hd
    case ptr ms =>
      split at hd
      · refine ⟨⟨_, rfl⟩, ?_⟩
        split at hd
        · rename_i i hi
          intro nf hnf
          have hq := List.all_eq_true.1 hd nf hnf
          split at hq
          · rename_i m hm
            rw [Bool.and_eq_true] at hq
            refine ⟨i, m, hi, hm, ?_, ?_⟩
            · apply Array.ext'
              simpa using hq.1
            · have h2 := hq.2
              split at h2
              · rename_i f b hf
                rw [Bool.and_eq_true] at h2
                rw [hf, Nat.eq_of_beq_eq_true h2.2, h2.1]
              · cases h2
          · cases hq
        · cases hd
      · cases hd
    case iface =>
      split at hd
      · exact ⟨_, rfl⟩
      · cases hd
    case other =>
      cases d <;> first | trivial | (cases hd; done)
  · rw [hty] at ht
    obtain ⟨t1, t2, t3⟩ := ht
    refine ⟨Nat.eq_of_beq_eq_true t1, fun F z hz' => ?_, fun ha => ?_⟩
    · rw [e1] at hz'
      simp only [Option.bind_some] at hz'
      rw [e4] at hz'
      cases hz'
      rw [t2]
      exact xU t
    · rw [ha, Bool.not_true, Bool.false_or, Bool.not_eq_true'] at t3
      exact t3
def ale : TE := fun _ => none
def ai (T : TypeId) (ti : TI) (te : TE) : TE := fun x => cond (Nat.beq x T) (some ti) (te x)
theorem aex {P : Program} : j3 P ale := fun _ _ h => by cases h
theorem aa {P : Program} {T : TypeId} {ti : TI} {te : TE} (h : aP P T ti) (ht : j3 P te) : j3 P (ai T ti te) := fun x t hx => by
  unfold ai at hx
  cases hb : Nat.beq x T
  · rw [hb] at hx; exact ht x t hx
  · rw [hb] at hx
    cases hx
    rw [Nat.eq_of_beq_eq_true hb]
    exact h
def abp : Env := fun _ => none
def ay (f : FuncId) (s : cv) (Φ : Env) : Env := fun x => cond (Nat.beq x f) (some s) (Φ x)
theorem abo {P : Program} : aQ P abp := fun _ _ h => by cases h
theorem ah {P : Program} {f : FuncId} {s : cv} {Φ : Env} (h : ac P f s) (hΦ : aQ P Φ) : aQ P (ay f s Φ) := fun x t hx => by
  unfold ay at hx
  cases hb : Nat.beq x f
  · rw [hb] at hx; exact hΦ x t hx
  · rw [hb] at hx
    cases hx
    rw [Nat.eq_of_beq_eq_true hb]
    exact h
theorem Of : av abp := fun _ _ h => by cases h
theorem ae {f : FuncId} {s : cv} {Φ : Env} (h : aF s) (hΦ : av Φ) : av (ay f s Φ) := fun x t hx => by
  unfold ay at hx
  cases hb : Nat.beq x f
  · rw [hb] at hx; exact hΦ x t hx
  · rw [hb] at hx
    cases hx
    exact h
end Sx
end Go.Proofs.YtohjofabochgfaaGreat

namespace Go.Proofs.YtohjofabochgfaaGreat
namespace Sx
open Go
def jt (l : List (Nat × Shape)) (r : Option Shape) : SE → Option Shape
  | .exit n => (l.find? fun p => Nat.beq p.1 n).map (·.2)
  | .ret => r
  | _ => none
theorem aE {l : List (Nat × Shape)} {r : Option Shape} {k : Nat} {R : Ctx} (hl : (l.all fun p => Nat.beq p.2.fixed k) = true) (hr : (r.all fun s => Nat.beq s.fixed k) = true) (hR : Small R k) :
    ∀ e s, jt l r e = some s → Small R s.fixed := by
  intro e s h
  cases e with
  | exit n =>
    simp only [jt] at h
    cases hf : l.find? fun p => Nat.beq p.1 n with
    | none => rw [hf] at h; cases h
    | some p =>
      rw [hf] at h
      cases h
      rw [Nat.eq_of_beq_eq_true (List.all_eq_true.1 hl p (List.mem_of_find?_eq_some hf))]
      exact hR
  | ret =>
    simp only [jt] at h
    subst h
    have e : s.fixed = k := Nat.eq_of_beq_eq_true (by simpa using hr)
    rw [e]
    exact hR
  | normal => cases h
  | pan v => cases h
theorem aS {l : List (Nat × Shape)} {r : Option Shape} (v : SV) : jt l r (.pan v) = none := rfl
section
variable {σ ε : Type} {T : σ → OT (Sum σ ε)}
theorem aH {s s' : σ} {m : Nat} {e : ε} (h : (T s).run = some (.inl s')) (h2 : aq T m s' = some e) : aq T (m + 1) s = some e := by
  simp only [aq, h]; exact h2
theorem aI {s : σ} {e : ε} (h : (T s).run = some (.inr e)) : aq T 1 s = some e := by
  simp only [aq, h]
theorem Aj (st : Nat → σ) (n : Nat) {e : ε} (h : ∀ k, k < n → (T (st k)).run = some (.inl (st (k + 1)))) (hn : (T (st n)).run = some (.inr e)) : ∀ j k, k + j = n → aq T (j + 1) (st k) = some e
  | 0, k, hk => by
    have : k = n := by omega
    subst this
    exact aI hn
  | j + 1, k, hk => aH (h k (by omega)) (Aj st n h hn j (k + 1) (by omega))
theorem NG (st : Nat → σ) (n : Nat) {e : ε} (h : ∀ k, k < n → (T (st k)).run = some (.inl (st (k + 1)))) (hn : (T (st n)).run = some (.inr e)) (k : Nat) (hk : k ≤ n) : ∃ m, aq T m (st k) = some e :=
  ⟨n - k + 1, Aj st n h hn (n - k) k (by omega)⟩
def upto {β : Type} (f : Nat → β → β) (b : β) : Nat → β
  | 0 => b
  | k + 1 => f k (upto f b k)
theorem bN {β : Type} (mk : Nat → β → σ) (step : Nat → β → β) (fin : β → ε) (n : Nat) (b0 : β) (P : Nat → β → Prop) (h0 : P 0 b0)
    (hs : ∀ k b, k < n → P k b → (T (mk k b)).run = some (.inl (mk (k + 1) (step k b))) ∧ P (k + 1) (step k b))
    (he : ∀ b, P n b → (T (mk n b)).run = some (.inr (fin b))) : (∃ m, aq T m (mk 0 b0) = some (fin (upto step b0 n))) ∧ P n (upto step b0 n) := by
  have hP : ∀ k, k ≤ n → P k (upto step b0 k) := by
    intro k
    induction k with
    | zero => exact fun _ => h0
    | succ k ih => exact fun hk => (hs k _ (by omega) (ih (by omega))).2
  refine ⟨?_, hP n (Nat.le_refl _)⟩
  exact NG (fun k => mk k (upto step b0 k)) n (fun k hk => (hs k _ hk (hP k (by omega))).1) (he _ (hP n (Nat.le_refl _))) 0 (Nat.zero_le _)
end
def tab {α : Type} (x : List α) (n : Nat) (d : α) : List α := (List.range n).map fun i => x.getD i d
def lay {α : Type} (x y : List α) (n : Nat) (d : α) : List α := (List.range n).foldl (fun a i => a.set i (y.getD i d)) x
theorem vl {α : Type} {x y : List α} {d : α} : ∀ n, (lay x y n d).length = x.length
  | 0 => rfl
  | n + 1 => by
    have := vl (x := x) (y := y) (d := d) n
    simp only [lay, List.range_succ, List.foldl_append, List.foldl_cons, List.foldl_nil, List.length_set] at this ⊢
    exact this
theorem aas {α : Type} {x y : List α} {d : α} : ∀ n i, n ≤ x.length → i < x.length → (lay x y n d)[i]? = if i < n then some (y.getD i d) else x[i]?
  | 0, i, _, _ => by simp [lay]
  | n + 1, i, h, hi => by
    have ih := aas (x := x) (y := y) (d := d) n i (by omega) hi
    have hl := vl (x := x) (y := y) (d := d) n
    simp only [lay] at ih hl
    simp only [lay, List.range_succ, List.foldl_append, List.foldl_cons, List.foldl_nil]
    by_cases e : n = i
    · subst e
      rw [List.getElem?_set_self (by omega), if_pos (by omega)]
    · rw [List.getElem?_set_ne e, ih]
      by_cases h1 : i < n
      · rw [if_pos h1, if_pos (by omega)]
      · rw [if_neg h1, if_neg (by omega)]
theorem aat {α : Type} {x y : List α} {n : Nat} {d : α} (hx : x.length = n) (hy : y.length = n) : lay x y n d = y := by
  apply List.ext_getElem?
  intro i
  by_cases hi : i < n
  · rw [aas n i (by omega) (by omega), if_pos hi, List.getD_eq_getElem?_getD, List.getElem?_eq_getElem (by omega)]
    rfl
  · rw [List.getElem?_eq_none (by rw [vl]; omega), List.getElem?_eq_none (by omega)]
theorem OT.jx {α : Type} {a : α} : (OT.ok a).run = some a := rfl
theorem OT.ap {α : Type} {b : Bool} {x y : OT α} (h : b = true) : (OT.br b x y).run = x.run := by rw [h]; rfl
theorem OT.au {α : Type} {b : Bool} {x y : OT α} (h : b = false) : (OT.br b x y).run = y.run := by rw [h]; rfl
def gd {α : Type} : List Bool → OT α → OT α
  | [], x => x
  | b :: r, x => .br b (gd r x) .fail
theorem aj {α : Type} {x : OT α} : ∀ {bs : List Bool}, bs.all (fun b => b) = true → (gd bs x).run = x.run
  | [], _ => rfl
  | b :: r, h => by
    rw [List.all_cons, Bool.and_eq_true] at h
    exact (OT.ap h.1).trans (aj h.2)
theorem bz {n : Int} (h : -9223372036854775808 ≤ n ∧ n ≤ 9223372036854775807) : inR n = true := by simp [inR, h.1, h.2]
theorem bF {k : Int} {n : Nat} (h : 0 ≤ k ∧ k < (n : Int)) : inB k n = true := by simp [inB, h.1, h.2]
end Sx
end Go.Proofs.YtohjofabochgfaaGreat

namespace Go.Proofs.YtohjofabochgfaaGreat
namespace Sx
open Go Go.RowKit
def eW (w : World) : Ctx := ⟨fun b => w.heap[b]?, ⟨fun _ => none, w⟩, fun _ => none, afs⟩
theorem aeA (w : World) : cN (eW w) w :=
  ⟨fun _ _ h => h, (fun _ _ h => by cases h), (fun c ch h => by cases h), (fun c c' ch ch' L L' h => by cases h), fun _ _ _ => rfl, ⟨rfl, rfl, rfl⟩⟩
theorem LQ {w w' : World} {R' : Ctx} {u : List (Nat × Ch)} (h : dJ (eW w) R' w' u) : Below w.heap.size w w' := by
  have he := h.mem.env
  rw [h.ext.U] at he
  have hb : ∀ k, k < w.heap.size → w'.heap[k]? = w.heap[k]? := fun k hk => by
    have h1 : w.heap[k]? = some w.heap[k] := by simp [hk]
    rw [h.mem.F k _ (h.ext.F k _ h1), h1]
  refine ⟨he.1, he.2.2, he.2.1, ?_, hb⟩
  rcases Nat.lt_or_ge w'.heap.size w.heap.size with hl | hl
  · have := hb _ hl
    simp [hl] at this
  · exact hl
theorem aav {P : Program} {f : FuncId} {s : cv} (h : ac P f s) (hfn : ∃ fn, P.funcs[f]? = some fn ∧ (fn.name == "runtime.NumGoroutine") = false ∧ fn.body.isNone = false) {w : World} {args : List SV} {vs : List Value} {u : List (Nat × Ch)} (hr : SV.bH (eW w) args vs)
    (ht : (s.f 0 args afs).run = some (.ret ⟨.bool true, u⟩)) : Calls P f vs.toArray w fun e w' => e = .returned (.bool true) ∧ Below w.heap.size w w' := by
  have hc : Calls P f vs.toArray w (TS (eW w) (.ret ⟨.bool true, u⟩)) := by
    rcases h.calls (eW w) w 0 args vs _ (aeA w) hr ht with ⟨_, _, _, _, hc⟩ | ⟨v, w', hv, _⟩
    · exact hc
    · exfalso
      obtain ⟨fn, f1, f2, f3⟩ := hfn
      have f2' : ¬ fn.name = "runtime.NumGoroutine" := by simpa using f2
      have f3' : ¬ fn.body = none := fun e => by rw [e] at f3; simp at f3
      simp [callFunc, f1, f2', f3'] at hv
  refine hc.mono fun e w' hp => ?_
  obtain ⟨v, R', rfl, ha, hv⟩ := hp
  simp only [SV.rel] at hv
  subst hv
  exact ⟨rfl, LQ ha⟩
end Sx
end Go.Proofs.YtohjofabochgfaaGreat

namespace Go.Proofs.YtohjofabochgfaaGreat
namespace Sx
open Go Go.RowKit
def HV (te : TE) (T : TypeId) (n : Nat) : Bool := match te T with
  | some ei => Nat.beq ei.size n
  | none => false
def u0 (go : TypeId → Ty → Bool) (te : TE) : Nat → List (Nat × TypeId) → Ty → Bool
  | o, [(p, T)], y => Nat.beq o p && (HV te T y.size && go T y)
  | o, (p, T) :: q :: r, .prod a b => Nat.beq o p && (HV te T a.size && (go T a && u0 go te (o + a.size) (q :: r) b))
  | _, _, _ => false
def sa (te : TE) : Nat → TypeId → Ty → Bool
  | 0, _, _ => false
  | n + 1, T, y => match te T with
    | none => false
    | some ti => match ti.desc, y with
      | .bool, .bool => true
      | .int .u64, .u64 => true
      | .int .u8, .u8 => true
      | .int .i64, .int => true
      | .str, .str => true
      | .array m e, .elem => (match te e with
        | some ei => (match ei.desc with | .int .u64 => true | _ => false) && Nat.beq ei.size 1
        | none => false) && (Nat.beq m 4 && Nat.beq ti.size 4)
      | .array m e, .arr k t => Nat.beq m k && (HV te e t.size && (Nat.beq ti.size (k * t.size) && sa te n e t))
      | .slice e, .list t => (match te e with
        | some ei => Nat.beq ei.size t.size && (Nat.blt 0 ei.size && Nat.blt 0 ei.bytes)
        | none => false) && sa te n e t
      | .struct fs, y => Nat.beq ti.size y.size && u0 (sa te n) te 0 fs y
      | _, _ => false
theorem Af {α β : Type} {f : α → Option β} : ∀ {l : List α} {ys : List β}, l.mapM f = some ys → ys.length = l.length ∧ ∀ (i : Nat) (h : i < l.length) (h' : i < ys.length), f l[i] = some ys[i]
  | [], ys, h => by
    simp only [List.mapM_nil, Option.pure_def, Option.some.injEq] at h
    subst h
    exact ⟨rfl, fun i hi => absurd hi (Nat.not_lt_zero _)⟩
  | x :: l, ys, h => by
    simp only [List.mapM_cons, Option.bind_eq_bind, Option.bind_eq_some_iff, Option.pure_def, Option.some.injEq] at h
    obtain ⟨y, h1, r, h2, rfl⟩ := h
    obtain ⟨h3, h4⟩ := Af h2
    refine ⟨by simp [h3], fun i hi hi' => ?_⟩
    cases i with
    | zero => exact h1
    | succ i => exact h4 i (by simpa using hi) (by simpa using hi')
theorem qB {α : Type} {d : α} {Q : Nat → α → Prop} : ∀ (n : Nat), (∀ i, i < n → ∃ x, Q i x) → ∃ l : List α, l.length = n ∧ ∀ i, i < n → Q i (l.getD i d)
  | 0, _ => ⟨[], rfl, fun i h => absurd h (Nat.not_lt_zero _)⟩
  | n + 1, h => by
    obtain ⟨l, h1, h2⟩ := qB n fun i hi => h i (by omega)
    obtain ⟨x, hx⟩ := h n (by omega)
    refine ⟨l ++ [x], by simp [h1], fun i hi => ?_⟩
    rcases Nat.lt_or_ge i n with hi' | hi'
    · have := h2 i hi'
      rwa [List.getD_eq_getElem?_getD, List.getElem?_append_left (by omega), ← List.getD_eq_getElem?_getD]
    · have : i = n := by omega
      subst this
      rw [List.getD_eq_getElem?_getD, List.getElem?_append_right (by omega), h1]
      simpa using hx
theorem G2 {w : World} {a : Addr} {n : Nat} {cs : List Value} (hn : 0 < n) (h : w.cells? 0 a n = some cs) :
    ∃ arr E fz, w.heap[a.block]? = some (.cells arr E fz) ∧ a.spot = none ∧ a.off + n ≤ arr.size ∧ cs = seg arr.toList a.off n := by
  unfold World.cells? at h
  rw [if_pos (Nat.zero_le _)] at h
  obtain ⟨h1, h2⟩ := Af h
  rw [List.length_range] at h1
  have hat : ∀ i (hi : i < n), w.cell? (a.add i) = some (cs[i]'(by omega)) := fun i hi => by
    have := h2 i (by simpa using hi) (by omega)
    simpa using this
  have h0 := hat 0 hn
  have e0 : a.add 0 = a := rfl
  rw [e0] at h0
  unfold World.cell? at h0
  split at h0
  · rename_i arr E fz hb
    split at h0
    · cases h0
    · rename_i hs
      have hs' : a.spot = none := by simpa using hs
      have hget : ∀ i (hi : i < n), arr[a.off + i]? = some (cs[i]'(by omega)) := fun i hi => by
        have := hat i hi
        unfold World.cell? Addr.add at this
        by_cases hi0 : i = 0
        · subst hi0
          simpa [hb, hs'] using this
        · rw [if_neg hi0] at this
          simpa [hb] using this
      have hle : a.off + n ≤ arr.size := by
        have := (Array.getElem?_eq_some_iff.1 (hget (n - 1) (by omega))).1
        omega
      refine ⟨arr, E, fz, hb, hs', hle, ?_⟩
      apply List.ext_getElem
      · rw [dX (by simpa using hle)]; exact h1
      · intro i hi hi'
        obtain ⟨hlt, he⟩ := Array.getElem?_eq_some_iff.1 (hget i (by omega))
        simp only [seg, List.getElem_take, List.getElem_drop, Array.getElem_toList]
        exact he.symm
  · cases h0
section
variable {H : Type} {enc : TypeId × Value → H} {P : Program} {te : TE} (hte : j3 P te) {w : World} {sp : Nat → Bool}
abbrev Gu (w : World) : Nat → Option Obj := fun b => w.heap[b]?
include hte
theorem fY {T : TypeId} {ti : TI} (h : te T = some ti) : P.cellsOf T = ti.size := by
  obtain ⟨i, z, h1, h2, _⟩ := (hte T ti h).akK
  unfold Program.cellsOf
  rw [h1]
  exact h2
theorem Wu {T : TypeId} {ti : TI} (h : te T = some ti) : P.bytesOf T = ti.bytes := by
  obtain ⟨i, z, h1, _, h2, _⟩ := (hte T ti h).akK
  unfold Program.bytesOf
  rw [h1]
  exact h2
omit hte in
theorem pL {T : TypeId} {n : Nat} (h : HV te T n = true) : ∃ ti, te T = some ti ∧ ti.size = n := by
  unfold HV at h
  split at h
  · rename_i ei he
    exact ⟨ei, he, Nat.eq_of_beq_eq_true h⟩
  · cases h
omit hte in
theorem jU {e : TypeId} : ∀ {l : List (DataW H)} {d : DataW H}, d ∈ l → ∀ n ∈ d.weights P e, n ∈ DataW.weightsAll P e l
  | x :: l, d, h, n, hn => by
    simp only [DataW.weightsAll, List.mem_append]
    rcases List.mem_cons.1 h with rfl | h
    · exact .inl hn
    · exact .inr (jU h n hn)
theorem El {go : TypeId → Ty → Bool} {fuel : Nat} {cs : List Value}
    (hgo : ∀ T y c d ps, go T y = true → c.length = y.size → DataW.trod enc P w 0 sp true fuel T c = some (d, ps) → (∀ n ∈ d.weights P T, n ≤ reachBytes) → ∃ x, Rep (Gu w) y x c) :
    ∀ (fl : List Field) (o : Nat) (y : Ty) (xs : List (DataW H × List MemPlace)), u0 go te o (fl.map fun f => (f.offset, f.type)) y = true → o + y.size = cs.length →
      fl.mapM (fun f => DataW.trod enc P w 0 sp true fuel f.type ((cs.drop f.offset).take (P.cellsOf f.type))) = some xs →
      (∀ n ∈ DataW.weightsEach P (fl.map (·.type)) (xs.map (·.1)), n ≤ reachBytes) → ∃ x, Rep (Gu w) y x (cs.drop o)
  | [], o, y, xs, h, _, _, _ => by simp [u0] at h
  | [f], o, y, xs, h, hl, hm, hw => by
    simp only [List.map_cons, List.map_nil, u0, Bool.and_eq_true] at h
    obtain ⟨h1, h2, h3⟩ := h
    have h1 := Nat.eq_of_beq_eq_true h1
    obtain ⟨ti, ht, hs⟩ := pL h2
    simp only [List.mapM_cons, List.mapM_nil, Option.bind_eq_bind, Option.bind_eq_some_iff, Option.pure_def, Option.some.injEq] at hm
    obtain ⟨⟨d, ps⟩, e1, r, rfl, rfl⟩ := hm
    rw [fY hte ht, hs, ← h1] at e1
    have hlen : (cs.drop o).length = y.size := by simp; omega
    rw [List.take_of_length_le (by omega)] at e1
    exact hgo _ _ _ _ _ h3 hlen e1 fun n hn => hw n (by simp only [List.map_cons, List.map_nil, DataW.weightsEach, List.append_nil]; exact hn)
  | f :: g :: r, o, y, xs, h, hl, hm, hw => by
    cases y <;> simp only [List.map_cons, u0, Bool.and_eq_true] at h <;> try (cases h; done)
    rename_i a b
    obtain ⟨h1, h2, h3, h4⟩ := h
    have h1 := Nat.eq_of_beq_eq_true h1
    obtain ⟨ti, ht, hs⟩ := pL h2
    rw [List.mapM_cons] at hm
    simp only [Option.bind_eq_bind, Option.bind_eq_some_iff, Option.pure_def, Option.some.injEq] at hm
    obtain ⟨⟨d, ps⟩, e1, q, e2, rfl⟩ := hm
    rw [fY hte ht, hs, ← h1] at e1
    simp only [Ty.size] at hl
    obtain ⟨x1, k1⟩ := hgo _ _ _ _ _ h3 (by simp; omega) e1 fun n hn => hw n (by simp only [List.map_cons, DataW.weightsEach, List.mem_append]; exact .inl hn)
    obtain ⟨x2, k2⟩ := El hgo (g :: r) (o + a.size) b q h4 (by omega) e2 fun n hn => hw n (by simp only [List.map_cons, DataW.weightsEach, List.mem_append] at hn ⊢; exact .inr hn)
    refine ⟨(x1, x2), ?_⟩
    simp only [Rep]
    refine ⟨by simp; omega, k1, ?_⟩
    rw [List.drop_drop]
    exact k2
theorem acg {go : TypeId → Ty → Bool} {fuel : Nat} {cs : List Value} {e : TypeId} {t : Ty} {ei : TI} (he : te e = some ei) (hs : ei.size = t.size)
    (hgo : ∀ c d ps, c.length = t.size → DataW.trod enc P w 0 sp true fuel e c = some (d, ps) → (∀ n ∈ d.weights P e, n ≤ reachBytes) → ∃ x, Rep (Gu w) t x c) {m : Nat} (hl : cs.length = m * t.size) {xs : List (DataW H × List MemPlace)}
    (hm : ((List.range m).mapM fun i => DataW.trod enc P w 0 sp true fuel e ((cs.drop (i * P.cellsOf e)).take (P.cellsOf e))) = some xs)
    (hw : ∀ n ∈ DataW.weightsAll P e (xs.map (·.1)), n ≤ reachBytes) : ∀ i, i < m → ∃ x, Rep (Gu w) t x (seg cs (i * t.size) t.size) := fun i hi => by
  obtain ⟨h1, h2⟩ := Af hm
  rw [List.length_range] at h1
  have := h2 i (by simpa using hi) (by omega)
  rw [List.getElem_range, fY hte he, hs] at this
  have hle : (i + 1) * t.size ≤ m * t.size := Nat.mul_le_mul_right _ hi
  rw [Nat.succ_mul] at hle
  refine hgo _ (xs[i]'(by omega)).1 (xs[i]'(by omega)).2 (dX (by omega)) this fun n hn => hw n (jU (List.mem_map.2 ⟨xs[i]'(by omega), List.getElem_mem _, rfl⟩) n hn)
omit hte in
theorem ahu {fuel : Nat} {e : TypeId} {c : Value} {d : DataW H} {ps : List MemPlace} (hu : P.underlying e = some (.int .u64)) (hr : DataW.trod enc P w 0 sp true fuel e [c] = some (d, ps)) : ∃ x : UInt64, c = eU x := by
  cases fuel with
  | zero => simp [DataW.trod] at hr
  | succ fuel =>
    simp only [DataW.trod, hu] at hr
    cases c <;> simp only at hr <;> try (cases hr; done)
    rename_i k' n
    split at hr
    · rename_i hk
      obtain ⟨rfl, hwf⟩ := hk
      have := bounds_u64 hwf
      refine ⟨UInt64.ofNat n.toNat, ?_⟩
      simp only [eU, UInt64.toNat_ofNat']
      congr 1
      omega
    · cases hr
theorem rq : ∀ (k fuel : Nat) (T : TypeId) (y : Ty) (cs : List Value) (d : DataW H) (ps : List MemPlace), sa te k T y = true → cs.length = y.size → DataW.trod enc P w 0 sp true fuel T cs = some (d, ps) →
    (∀ n ∈ d.weights P T, n ≤ reachBytes) → ∃ x, Rep (Gu w) y x cs
  | 0, _, _, _, _, _, _, h, _, _, _ => by simp [sa] at h
  | k + 1, 0, _, _, _, _, _, _, _, h, _ => by simp [DataW.trod] at h
  | k + 1, fuel + 1, T, y, cs, d, ps, h, hl, hr, hw => by
    simp only [sa] at h
    split at h
    · cases h
    · rename_i ti hT
      obtain ⟨ds, hu, hd⟩ := (hte T ti hT).desc
      have hcells := fY hte hT
      simp only [DataW.trod, hu] at hr
      split at h
      · -- bool
        rename_i he
        rw [he] at hd
        simp only at hd
        subst hd
        match cs, hl with
        | [c], hl1 =>
          cases c <;> simp only [Option.some.injEq] at hr <;> try (cases hr; done)
          exact ⟨_, rfl⟩
      · rename_i he
        rw [he] at hd
        simp only at hd
        subst hd
        match cs, hl with
        | [c], hl1 =>
          cases c <;> simp only at hr <;> try (cases hr; done)
          rename_i k' n
          split at hr
          · rename_i hk
            obtain ⟨rfl, hwf⟩ := hk
            have := bounds_u64 hwf
            refine ⟨UInt64.ofNat n.toNat, ?_⟩
            simp only [Rep, eU, UInt64.toNat_ofNat']
            congr 2
            omega
          · cases hr
      · rename_i he
        rw [he] at hd
        simp only at hd
        subst hd
        match cs, hl with
        | [c], hl1 =>
          cases c <;> simp only at hr <;> try (cases hr; done)
          rename_i k' n
          split at hr
          · rename_i hk
            obtain ⟨rfl, hwf⟩ := hk
            have := bounds_u8 hwf
            refine ⟨UInt8.ofNat n.toNat, ?_⟩
            simp only [Rep, vu8, UInt8.toNat_ofNat']
            congr 2
            omega
          · cases hr
      · rename_i he
        rw [he] at hd
        simp only at hd
        subst hd
        match cs, hl with
        | [c], hl1 =>
          cases c <;> simp only at hr <;> try (cases hr; done)
          rename_i k' n
          split at hr
          · rename_i hk
            obtain ⟨rfl, hwf⟩ := hk
            have := bounds_i64 hwf
            exact ⟨n, rfl, bz (by omega)⟩
          · cases hr
      · rename_i he
        rw [he] at hd
        simp only at hd
        subst hd
        match cs, hl with
        | [c], hl1 =>
          cases c <;> simp only at hr <;> try (cases hr; done)
          rename_i s
          split at hr
          · cases hr
            refine ⟨s.data.toList, ?_⟩
            have := hw s.data.toList.length (by simp [DataW.weights])
            unfold reachBytes at this
            simp only [Rep]
            exact ⟨trivial, by unfold cb; omega⟩
          · cases hr
      · -- four words
        rename_i m e he
        rw [he] at hd
        simp only at hd
        subst hd
        simp only [Bool.and_eq_true] at h
        obtain ⟨h1, h2, h3⟩ := h
        split at h1
        · rename_i ei hei
          rw [Bool.and_eq_true] at h1
          obtain ⟨h4, h5⟩ := h1
          split at h4
          · rename_i hed
            have h2 := Nat.eq_of_beq_eq_true h2
            have h5 := Nat.eq_of_beq_eq_true h5
            subst h2
            obtain ⟨de, hue, hde⟩ := (hte e ei hei).desc
            rw [hed] at hde
            simp only at hde
            subst hde
            have hl4 : cs.length = 4 := hl
            simp only at hr
            rw [if_pos (by rw [hcells]; rw [hl4]; exact (Nat.eq_of_beq_eq_true h3).symm)] at hr
            simp only [Option.map_eq_some_iff] at hr
            obtain ⟨xs, hm, hx⟩ := hr
            obtain ⟨m1, m2⟩ := Af hm
            rw [List.length_range] at m1
            match cs, hl4 with
            | [c0, c1, c2, c3], hl1 =>
              have key : ∀ i (hi : i < 4), ∃ x : UInt64, [c0, c1, c2, c3][i] = eU x := fun i hi => by
                have := m2 i (by simpa using hi) (by omega)
                rw [List.getElem_range, fY hte hei, h5, Nat.mul_one] at this
                have e2 : ([c0, c1, c2, c3].drop i).take 1 = [[c0, c1, c2, c3][i]] := by
                  rw [List.drop_eq_getElem_cons (by simpa using hi)]
                  rfl
                rw [e2] at this
                exact ahu hue this
              obtain ⟨x0, k0⟩ := key 0 (by omega)
              obtain ⟨x1, k1⟩ := key 1 (by omega)
              obtain ⟨x2, k2⟩ := key 2 (by omega)
              obtain ⟨x3, k3⟩ := key 3 (by omega)
              simp only [List.getElem_cons_zero, List.getElem_cons_succ] at k0 k1 k2 k3
              exact ⟨⟨x0, x1, x2, x3⟩, by simp only [Rep, k0, k1, k2, k3]⟩
          · cases h4
        · cases h1
      · -- an array
        rename_i m e k' t he
        rw [he] at hd
        simp only at hd
        subst hd
        simp only [Bool.and_eq_true] at h
        obtain ⟨h1, h2, h3, h4⟩ := h
        have h1 := Nat.eq_of_beq_eq_true h1
        subst h1
        obtain ⟨ei, hei, hs⟩ := pL h2
        have hl' : cs.length = m * t.size := hl
        simp only at hr
        rw [if_pos (by rw [hcells, hl']; exact (Nat.eq_of_beq_eq_true h3).symm)] at hr
        simp only [Option.map_eq_some_iff] at hr
        obtain ⟨xs, hm, hx⟩ := hr
        cases hx
        have key := acg (go := fun _ _ => true) hte hei hs (fun c d ps h1 h2 h3 => rq k fuel e t c d ps h4 h1 h2 h3) hl' hm (fun n hn => hw n (by simp only [DataW.weights, hu]; exact hn))
        obtain ⟨l, l1, l2⟩ := qB (d := t.d) m key
        exact ⟨l, hl', l1, l2⟩
      · -- a slice
        rename_i e t he
        rw [he] at hd
        simp only at hd
        subst hd
        rw [Bool.and_eq_true] at h
        obtain ⟨h1, h4⟩ := h
        split at h1
        · rename_i ei hei
          simp only [Bool.and_eq_true] at h1
          obtain ⟨h1, h2, h3⟩ := h1
          have hs := Nat.eq_of_beq_eq_true h1
          have hpos := da h2
          have hby := da h3
          match cs, hl with
          | [c], hl1 =>
            cases c <;> try (exfalso; simp at hr; done)
            rename_i ad len cap
            cases ad with
            | none =>
              rcases len with _ | len
              · rcases cap with _ | cap
                · exact ⟨[], by simp only [Rep]; exact ⟨Nat.zero_le _, none, 0, rfl, Nat.le_refl _, .inl trivial⟩⟩
                · cases hr
              · cases hr
            | some a =>
              simp only at hr
              split at hr
              · rename_i hcond
                obtain ⟨_, hlc, _⟩ := hcond
                simp only [Option.bind_eq_some_iff, Option.map_eq_some_iff] at hr
                obtain ⟨elems, hm, rest, _, hx⟩ := hr
                cases hx
                obtain ⟨m1, m2⟩ := Af hm
                rw [List.length_range] at m1
                have hwt := hw ((elems.length + rest.length) * P.bytesOf e) (by simp [DataW.weights, hu])
                rw [Wu hte hei] at hwt
                have hlen : len ≤ cb := by
                  have : elems.length ≤ (elems.length + rest.length) * ei.bytes := Nat.le_trans (Nat.le_add_right _ _) (Nat.le_mul_of_pos_right _ hby)
                  unfold reachBytes at hwt
                  unfold cb
                  omega
                rcases Nat.eq_zero_or_pos len with h0 | h0
                · subst h0
                  exact ⟨[], by simp only [Rep]; exact ⟨Nat.zero_le _, _, _, rfl, Nat.zero_le _, .inl trivial⟩⟩
                · have key : ∀ i, i < len → ∃ c, w.cells? 0 (a.add (i * t.size)) t.size = some c ∧ ∃ x, Rep (Gu w) t x c := fun i hi => by
                    have := m2 i (by simpa using hi) (by omega)
                    rw [List.getElem_range, fY hte hei, hs] at this
                    obtain ⟨c, hc, hrr⟩ := Option.bind_eq_some_iff.1 this
                    refine ⟨c, hc, rq k fuel e t c (elems[i]'(by omega)).1 (elems[i]'(by omega)).2 h4 ?_ hrr fun n hn => hw n ?_⟩
                    · obtain ⟨arr, E, fz, _, _, hle, rfl⟩ := G2 (by omega) hc
                      exact dX (by simpa using hle)
                    · simp only [DataW.weights, hu, List.mem_cons, List.mem_append]
                      exact .inr (.inl (jU (List.mem_map.2 ⟨elems[i]'(by omega), List.getElem_mem _, rfl⟩) n hn))
                  obtain ⟨c0, hc0, _⟩ := key 0 h0
                  rw [Nat.zero_mul] at hc0
                  obtain ⟨arr, E, fz, hb, hsp, _, _⟩ := G2 (by omega) hc0
                  have hb' : w.heap[a.block]? = some (.cells arr E fz) := hb
                  have hsp' : a.spot = none := hsp
                  have at_i : ∀ i, i < len → a.off + i * t.size + t.size ≤ arr.size ∧ ∃ x, Rep (Gu w) t x (seg arr.toList (a.off + i * t.size) t.size) := fun i hi => by
                    obtain ⟨c, hc, x, hx⟩ := key i hi
                    obtain ⟨arr2, E2, fz2, hb2, _, hle, rfl⟩ := G2 (by omega) hc
                    have hblk : (a.add (i * t.size)).block = a.block := by unfold Addr.add; split <;> rfl
                    have hoff : (a.add (i * t.size)).off = a.off + i * t.size := by
                      unfold Addr.add
                      split
                      · rename_i h; rw [h]; rfl
                      · rfl
                    rw [hblk, hb'] at hb2
                    cases hb2
                    rw [hoff] at hle hx
                    exact ⟨hle, x, hx⟩
                  obtain ⟨l, l1, l2⟩ := qB (d := t.d) len fun i hi => (at_i i hi).2
                  refine ⟨l, ?_⟩
                  simp only [Rep]
                  refine ⟨by omega, some a, cap, by rw [l1], by omega, .inr ⟨a.block, a.off, arr, E, fz, ?_, hb', ?_, fun i hi => l2 i (by omega)⟩⟩
                  · obtain ⟨blk, off, spot⟩ := a
                    simp only at hsp'
                    rw [hsp']
                  · have := (at_i (len - 1) (by omega)).1
                    have e2 : (len - 1) * t.size + t.size = len * t.size := by
                      rw [← Nat.succ_mul]
                      congr 1
                      omega
                    rw [l1]
                    omega
              · cases hr
        · cases h1
      · -- a struct
        rename_i y _ _ fs he
        rw [he] at hd
        simp only at hd
        obtain ⟨fields, rfl, hf, _⟩ := hd
        rw [Bool.and_eq_true] at h
        have hsz := Nat.eq_of_beq_eq_true h.1
        simp only at hr
        rw [if_pos (by rw [hcells, hl]; exact hsz.symm)] at hr
        simp only [Option.map_eq_some_iff] at hr
        obtain ⟨xs, hm, hx⟩ := hr
        cases hx
        have h2 := h.2
        rw [← hf] at h2
        have := El hte (go := sa te k) (cs := cs) (fun T y c d ps a b c' d' => rq k fuel T y c d ps a b c' d') fields.toList 0 y xs h2 (by omega) hm (fun n hn => hw n (by simp only [DataW.weights, hu]; exact hn))
        simpa using this
      · cases h
end
end Sx
end Go.Proofs.YtohjofabochgfaaGreat

namespace Go.Proofs.YtohjofabochgfaaGreat
namespace Sx
open Go Go.RowKit Go.ChangeShapes Go.WideShapes Go.ChangeAt
def ach (te : TE) (k : Nat) : List TypeId → List (Bool × Ty) → Bool
  | [], [] => true
  | T :: ts, (b, y) :: r => (match te T with
    | some ti => (b == ti.desc.agg) && Nat.beq ti.size y.size
    | none => false) && (sa te k T y && ach te k ts r)
  | _, _ => false
section
variable {H : Type} {enc : TypeId × Value → H} {P : Program} {te : TE} (hte : j3 P te) {w : World} {sp : Nat → Bool}
include hte
theorem afp {k : Nat} {T : TypeId} {y : Ty} {ti : TI} {v : Value} {d : DataW H} {ps : List MemPlace} (hT : te T = some ti) (hs : ti.size = y.size) (hp : sa te k T y = true) {base : Nat} (hok : Value.okWide P w .any base T v)
    (h : DataW.Trod enc P w 0 sp true T v d ps) (hw : ∀ n ∈ d.weights P T, n ≤ reachBytes) : ∃ x : y.T, SV.rel (eW w) (inj ti.desc.agg y x) v := by
  obtain ⟨fuel, hf⟩ := h
  obtain ⟨ds, hu, hd⟩ := (hte T ti hT).desc
  cases hagg : ti.desc.agg
  · have hone : v.cells.toList = [v] ∧ v.oneCell' = true := by
      have hc : Cell.okWide P w .any base T v := by
        unfold Value.okWide at hok
        rw [hu] at hok
        cases ds <;> first | exact hok | skip
        all_goals (
          cases hk : ti.desc <;> rw [hk] at hd hagg <;> simp only [TD.agg] at hd hagg <;>
            first | (cases hagg; done) | (cases hd; done) | (obtain ⟨e, he⟩ := hd; cases he; done) | (obtain ⟨⟨e, he⟩, _⟩ := hd; cases he; done) | exact absurd hd id)
      unfold Cell.okWide Cell.ok at hc
      rw [hu] at hc
      cases v <;> first | exact ⟨rfl, rfl⟩ | (exfalso; cases ds <;> first | exact hc | (simp at hc; done))
    rw [hone.1] at hf
    have hsz : y.size = 1 := by rw [← hs]; exact (hte T ti hT).one hagg
    obtain ⟨x, hx⟩ := rq hte k fuel T y [v] d ps hp (by rw [hsz]; rfl) hf hw
    refine ⟨x, ?_⟩
    have hr := dY (R := eW w) y x [v] hx
    simp only [inj, mg, Bool.false_eq_true, if_false]
    have hl := eV y x
    rw [hsz] at hl
    match hc : unpack y x, hl with
    | [u], _ =>
      rw [hc] at hr
      obtain ⟨v', e, h⟩ := b9 hr
      cases e
      exact h
  · have hv : ∃ cs, v = .agg cs ∧ cs.size = P.cellsOf T := by
      unfold Value.okWide at hok
      rw [hu] at hok
      cases hk : ti.desc <;> rw [hk] at hd hagg <;> simp only [TD.agg] at hd hagg <;> try (cases hagg; done)
      · obtain ⟨fields, rfl, _⟩ := hd
        obtain ⟨cs, h1, h2, _⟩ := hok
        exact ⟨cs, h1, h2⟩
      · subst hd
        obtain ⟨cs, h1, h2, _⟩ := hok
        exact ⟨cs, h1, h2⟩
    obtain ⟨cs, rfl, hsz⟩ := hv
    obtain ⟨x, hx⟩ := rq hte k fuel T y cs.toList d ps hp (by rw [Array.length_toList, hsz, fY hte hT, hs]) hf hw
    exact ⟨x, sy (dY (R := eW w) y x _ hx) (lP _ _ _ hx)⟩
theorem Ju {k base : Nat} : ∀ {ts : List TypeId} {kd : List (Bool × Ty)} {vs : List Value} {ds : List (DataW H)} {ps : List MemPlace}, ach te k ts kd = true →
    (∀ (j : Nat) t v, ts[j]? = some t → vs[j]? = some v → Value.okWide P w .any base t v) → DataW.TrodAll enc P w 0 sp true ts vs ds ps → (DataW.weightsEach P ts ds).all (· ≤ reachBytes) = true →
    ∃ x : ATy kd, SV.bH (eW w) (agY kd x) vs
  | [], [], [], [], _, _, _, _, _ => ⟨(), by simp only [agY, SV.bH]⟩
  | [], [], v :: vs, _, _, _, _, h, _ => by simp [DataW.TrodAll] at h
  | [], [], [], d :: ds, _, _, _, h, _ => by simp [DataW.TrodAll] at h
  | [], a :: kd, _, _, _, h, _, _, _ => by simp [ach] at h
  | T :: ts, [], _, _, _, h, _, _, _ => by simp [ach] at h
  | T :: ts, (b, y) :: kd, [], _, _, _, _, h, _ => by simp [DataW.TrodAll] at h
  | T :: ts, (b, y) :: kd, v :: vs, [], _, _, _, h, _ => by simp [DataW.TrodAll] at h
  | T :: ts, (b, y) :: kd, v :: vs, d :: ds, ps, h, hok, ht, hw => by
    obtain ⟨p, q, h1, h2, rfl⟩ := ht
    simp only [ach, Bool.and_eq_true] at h
    obtain ⟨hb, hp, hr⟩ := h
    split at hb
    · rename_i ti hT
      rw [Bool.and_eq_true] at hb
      have e1 : b = ti.desc.agg := by simpa using hb.1
      subst e1
      simp only [DataW.weightsEach, List.all_append, Bool.and_eq_true] at hw
      obtain ⟨x, hx⟩ := afp hte hT (Nat.eq_of_beq_eq_true hb.2) hp (hok 0 T v rfl rfl) h1 fun n hn => by simpa using List.all_eq_true.1 hw.1 n hn
      obtain ⟨xs, hxs⟩ := Ju hr (fun j t u h1 h2 => hok (j + 1) t u h1 h2) h2 hw.2
      exact ⟨(x, xs), by simp only [agY, SV.bH]; exact ⟨v, vs, rfl, hx, hxs⟩⟩
    · cases hb
end
theorem aey {S : ao} {pre : S.T → Bool} {F : S.T → OT S.Y} {args : List SV} {X : S.T} {out : Out} (hp : S.inp.prj ⟨args, afs⟩ = some X) (hpre : pre X = true)
    (hr : ((F X).bind fun oy => S.emit (S.inp.bd ⟨args, afs⟩) 0 afs oy.1 oy.2).run = some out) : ((S.aD pre F).f 0 args afs).run = some out := by
  simp only [ao.aD, hp, hpre]
  exact hr
theorem EQ {H : Type} {enc : TypeId × Value → H} {P : Program} {w w' : World} (hl : laidOutB P = true) (hb : Below w.heap.size w w') : ∀ {ts : List TypeId} {vs : List Value} {ds : List (DataW H)} {ps : List MemPlace},
    ts.all (fun t => P.readableRec t && Nat.blt t P.types.size) = true → DataW.TrodAll enc P w 0 (fun _ => true) true ts vs ds ps → DataW.TrodAll enc P w' 0 (fun b => decide (b < w.heap.size)) true ts vs ds ps
  | [], [], [], _, _, h => h
  | [], v :: vs, _, _, _, h => by simp [DataW.TrodAll] at h
  | [], [], d :: ds, _, _, h => by simp [DataW.TrodAll] at h
  | T :: ts, [], _, _, _, h => by simp [DataW.TrodAll] at h
  | T :: ts, v :: vs, [], _, _, h => by simp [DataW.TrodAll] at h
  | T :: ts, v :: vs, d :: ds, ps, hr, h => by
    obtain ⟨p, q, h1, h2, rfl⟩ := h
    simp only [List.all_cons, Bool.and_eq_true] at hr
    have lt1 : ∀ x ∈ p, x.block < w.heap.size := by obtain ⟨m, hm⟩ := h1; exact DataW.trod_lt m _ _ _ hm
    exact ⟨p, q, Below.trod hl hr.1.1 (da hr.1.2) h1 hb lt1, EQ hl hb hr.2 h2, rfl⟩
end Sx
end Go.Proofs.YtohjofabochgfaaGreat

namespace Go.Proofs.YtohjofabochgfaaGreat
namespace Sx
open Go
theorem ag4 {P : Program} {f : FuncId} {S : ao} {k : Nat} (hk : S.chunks.all (fun c => Nat.blt c.1 k && !c.2.sD) = true) {pre : S.T → Bool} {F : S.T → OT S.Y}
    (h : ∀ (x : S.T) (oy : S.Y) (vs : List Value) (N : Ctx) (w : World), pre x = true → (F x).run = some oy → SV.bH N (S.inp.inj x).tm vs →
      ∃ v u, (callFunc f vs.toArray).run P w = .ok (.value u) w ∧ SV.rel N v u ∧ oy.1.is oy.2 false v (dc S.chunks x.2)) : ac P f (S.aD pre F) := by
  refine ⟨?_⟩
  intro R w d args vs out hm hr hrun
  simp only [ao.aD] at hrun
  split at hrun
  · cases hrun
  · rename_i x hx
    obtain ⟨hpre, h2⟩ := OT.aA hrun
    obtain ⟨oy, h3, h4⟩ := OT.run_bind h2
    unfold ao.emit at h4
    dsimp only at h4
    obtain ⟨hend, h5⟩ := OT.aA h4
    have hx' := hx
    unfold Shape.prj at hx'
    dsimp only at hx'
    cases hbo : S.inp.CE ⟨args, R.hp⟩ (S.inp.bd ⟨args, R.hp⟩) && Nat.beq args.length S.inp.n
    · rw [hbo] at hx'; cases hx'
    · rw [hbo] at hx'
      rw [Bool.and_eq_true] at hbo
      obtain ⟨hx1, hx2⟩ := bn hx'
      have hlen : args.length = S.inp.n := Nat.eq_of_beq_eq_true hbo.2
      have hN := F2 (s := S.inp) (st := ⟨args, R.hp⟩) (F' := R.wK (S.inp.bd ⟨args, R.hp⟩) S.bw w) (U' := R.CQ (S.inp.bd ⟨args, R.hp⟩) S.bw w) hbo.1 hx2 rfl hm (JS hm) (Gq hm) aaz (JR hm) JQ agX hm.env
      have hargs : SV.bH (R.named (R.wK (S.inp.bd ⟨args, R.hp⟩) S.bw w) (R.CQ (S.inp.bd ⟨args, R.hp⟩) S.bw w) (S.inp.bd ⟨args, R.hp⟩) (dc S.chunks x.2)) (S.inp.inj x).tm vs :=
        jE (s := S.inp) (st := ⟨args, R.hp⟩) hbo.1 hx2 rfl hm (JS hm) (Gq hm) hr hx1 (SV.uj (by rw [List.length_replicate, ← hlen]; exact SV.aK hr) fun i hi hi' => by simp [SV.rel])
      obtain ⟨v, u, hv, hru, his⟩ := h x oy vs _ w hpre h3 hargs
      obtain ⟨R', a1, a2⟩ := aa0 hm hx hk (Ctx.Ext.refl _) hN hru his hend
      rw [his.1] at h5
      cases h5
      exact .inr ⟨u, w, hv, u, R', rfl, a1, a2⟩
end Sx
end Go.Proofs.YtohjofabochgfaaGreat

namespace Go.Proofs.YtohjofabochgfaaGreat
namespace Sx
open Go
def Out.after (u : List (Nat × Ch)) : Out → Out
  | .ret e => .ret ⟨e.v, u ++ e.upd⟩
  | .pan v u' => .pan v (u ++ u')
theorem dJ.trans {R R1 R2 : Ctx} {w w' : World} {u u' : List (Nat × Ch)} (h : dJ R R1 w u) (h' : dJ R1 R2 w' u') : dJ R R2 w' (u ++ u') :=
  ⟨h.ext.trans h'.ext, by rw [h'.hp, h.hp, eP], h'.mem⟩
end Sx
end Go.Proofs.YtohjofabochgfaaGreat

namespace Go.Proofs.YtohjofabochgfaaGreat
open Sx Go
set_option maxRecDepth 100000
def agH : TI := ⟨1, 8, .other, [.bt], none⟩
theorem ald : aP Tryz.prog 1 agH := af (by kernel_rfl) (by kernel_rfl) (by kernel_rfl) (by kernel_rfl) (by kernel_rfl) (by kernel_rfl) (by kernel_rfl) (by kernel_rfl) (by kernel_rfl) (by kernel_rfl) (by kernel_rfl) trivial
def agG : TI := ⟨1, 8, .int .i64, [.int 0], some .int⟩
theorem alc : aP Tryz.prog 2 agG := af (by kernel_rfl) (by kernel_rfl) (by kernel_rfl) (by kernel_rfl) (by kernel_rfl) (by kernel_rfl) (by kernel_rfl) (by kernel_rfl) (by kernel_rfl) (by kernel_rfl) (by kernel_rfl) ⟨by kernel_rfl, by kernel_rfl, by kernel_rfl⟩
def agF : TI := ⟨1, 8, .int .i64, [.int 0], some .int⟩
theorem alb : aP Tryz.prog 3 agF := af (by kernel_rfl) (by kernel_rfl) (by kernel_rfl) (by kernel_rfl) (by kernel_rfl) (by kernel_rfl) (by kernel_rfl) (by kernel_rfl) (by kernel_rfl) (by kernel_rfl) (by kernel_rfl) ⟨by kernel_rfl, by kernel_rfl, by kernel_rfl⟩
def agE : TI := ⟨1, 1, .bool, [.bool false], some .bool⟩
theorem ala : aP Tryz.prog 4 agE := af (by kernel_rfl) (by kernel_rfl) (by kernel_rfl) (by kernel_rfl) (by kernel_rfl) (by kernel_rfl) (by kernel_rfl) (by kernel_rfl) (by kernel_rfl) (by kernel_rfl) (by kernel_rfl) ⟨by kernel_rfl, by kernel_rfl, by kernel_rfl⟩
def agD : TI := ⟨1, 1, .int .u8, [.u8 0], some .u8⟩
theorem ak9 : aP Tryz.prog 5 agD := af (by kernel_rfl) (by kernel_rfl) (by kernel_rfl) (by kernel_rfl) (by kernel_rfl) (by kernel_rfl) (by kernel_rfl) (by kernel_rfl) (by kernel_rfl) (by kernel_rfl) (by kernel_rfl) ⟨by kernel_rfl, by kernel_rfl, by kernel_rfl⟩
def agC : TI := ⟨1, 1, .int .u8, [.u8 0], some .u8⟩
theorem ak8 : aP Tryz.prog 6 agC := af (by kernel_rfl) (by kernel_rfl) (by kernel_rfl) (by kernel_rfl) (by kernel_rfl) (by kernel_rfl) (by kernel_rfl) (by kernel_rfl) (by kernel_rfl) (by kernel_rfl) (by kernel_rfl) ⟨by kernel_rfl, by kernel_rfl, by kernel_rfl⟩
def agB : TI := ⟨4, 24, .struct [(0, 2), (1, 3), (2, 4), (3, 6)], [.int 0, .int 0, .bool false, .u8 0], some (.prod .int (.prod .int (.prod .bool .u8)))⟩
theorem ak7 : aP Tryz.prog 7 agB := af (by kernel_rfl) (by kernel_rfl) (by kernel_rfl) (by kernel_rfl) (by kernel_rfl) (by kernel_rfl) (by kernel_rfl) (by kernel_rfl) (by kernel_rfl) (by kernel_rfl) (by kernel_rfl) ⟨by kernel_rfl, by kernel_rfl, by kernel_rfl⟩
def agA : TI := ⟨4, 24, .struct [(0, 2), (1, 3), (2, 4), (3, 6)], [.int 0, .int 0, .bool false, .u8 0], some (.prod .int (.prod .int (.prod .bool .u8)))⟩
theorem ak6 : aP Tryz.prog 8 agA := af (by kernel_rfl) (by kernel_rfl) (by kernel_rfl) (by kernel_rfl) (by kernel_rfl) (by kernel_rfl) (by kernel_rfl) (by kernel_rfl) (by kernel_rfl) (by kernel_rfl) (by kernel_rfl) ⟨by kernel_rfl, by kernel_rfl, by kernel_rfl⟩
def agz : TI := ⟨1, 16, .str, [.str []], some .str⟩
theorem ak5 : aP Tryz.prog 9 agz := af (by kernel_rfl) (by kernel_rfl) (by kernel_rfl) (by kernel_rfl) (by kernel_rfl) (by kernel_rfl) (by kernel_rfl) (by kernel_rfl) (by kernel_rfl) (by kernel_rfl) (by kernel_rfl) ⟨by kernel_rfl, by kernel_rfl, by kernel_rfl⟩
def Yt : TI := ⟨1, 16, .str, [.str []], some .str⟩
theorem aiL : aP Tryz.prog 10 Yt := af (by kernel_rfl) (by kernel_rfl) (by kernel_rfl) (by kernel_rfl) (by kernel_rfl) (by kernel_rfl) (by kernel_rfl) (by kernel_rfl) (by kernel_rfl) (by kernel_rfl) (by kernel_rfl) ⟨by kernel_rfl, by kernel_rfl, by kernel_rfl⟩
def Ys : TI := ⟨1, 16, .str, [.str []], some .str⟩
theorem aiK : aP Tryz.prog 11 Ys := af (by kernel_rfl) (by kernel_rfl) (by kernel_rfl) (by kernel_rfl) (by kernel_rfl) (by kernel_rfl) (by kernel_rfl) (by kernel_rfl) (by kernel_rfl) (by kernel_rfl) (by kernel_rfl) ⟨by kernel_rfl, by kernel_rfl, by kernel_rfl⟩
def Yr : TI := ⟨1, 8, .int .u64, [.u64 0], some .u64⟩
theorem aiJ : aP Tryz.prog 12 Yr := af (by kernel_rfl) (by kernel_rfl) (by kernel_rfl) (by kernel_rfl) (by kernel_rfl) (by kernel_rfl) (by kernel_rfl) (by kernel_rfl) (by kernel_rfl) (by kernel_rfl) (by kernel_rfl) ⟨by kernel_rfl, by kernel_rfl, by kernel_rfl⟩
def Yq : TI := ⟨1, 8, .ptr [("Error", 183), ("RuntimeError", 184)], [.l7], none⟩
theorem aiI : aP Tryz.prog 15 Yq := af (by kernel_rfl) (by kernel_rfl) (by kernel_rfl) (by kernel_rfl) (by kernel_rfl) (by kernel_rfl) (by kernel_rfl) (by kernel_rfl) (by kernel_rfl) (by kernel_rfl) (by kernel_rfl) trivial
def Yp : TI := ⟨1, 8, .ptr [("Error", 185), ("RuntimeError", 186)], [.l7], none⟩
theorem aiH : aP Tryz.prog 16 Yp := af (by kernel_rfl) (by kernel_rfl) (by kernel_rfl) (by kernel_rfl) (by kernel_rfl) (by kernel_rfl) (by kernel_rfl) (by kernel_rfl) (by kernel_rfl) (by kernel_rfl) (by kernel_rfl) trivial
def Yo : TI := ⟨1, 8, .ptr [("Align", 187)], [.l7], none⟩
theorem aiG : aP Tryz.prog 17 Yo := af (by kernel_rfl) (by kernel_rfl) (by kernel_rfl) (by kernel_rfl) (by kernel_rfl) (by kernel_rfl) (by kernel_rfl) (by kernel_rfl) (by kernel_rfl) (by kernel_rfl) (by kernel_rfl) trivial
def Yn : TI := ⟨1, 16, .iface, [.c9], none⟩
theorem aiF : aP Tryz.prog 20 Yn := af (by kernel_rfl) (by kernel_rfl) (by kernel_rfl) (by kernel_rfl) (by kernel_rfl) (by kernel_rfl) (by kernel_rfl) (by kernel_rfl) (by kernel_rfl) (by kernel_rfl) (by kernel_rfl) trivial
def Ym : TI := ⟨1, 4, .int .i32, [.bt], none⟩
theorem aiE : aP Tryz.prog 21 Ym := af (by kernel_rfl) (by kernel_rfl) (by kernel_rfl) (by kernel_rfl) (by kernel_rfl) (by kernel_rfl) (by kernel_rfl) (by kernel_rfl) (by kernel_rfl) (by kernel_rfl) (by kernel_rfl) trivial
def Yl : TI := ⟨1, 24, .slice 41, [.emp], some (.list .elem)⟩
theorem aiD : aP Tryz.prog 22 Yl := af (by kernel_rfl) (by kernel_rfl) (by kernel_rfl) (by kernel_rfl) (by kernel_rfl) (by kernel_rfl) (by kernel_rfl) (by kernel_rfl) (by kernel_rfl) (by kernel_rfl) (by kernel_rfl) ⟨by kernel_rfl, by kernel_rfl, by kernel_rfl⟩
def Yk : TI := ⟨2, 32, .struct [(0, 3), (1, 22)], [.int 0, .emp], some (.prod .int (.list .elem))⟩
theorem aiC : aP Tryz.prog 23 Yk := af (by kernel_rfl) (by kernel_rfl) (by kernel_rfl) (by kernel_rfl) (by kernel_rfl) (by kernel_rfl) (by kernel_rfl) (by kernel_rfl) (by kernel_rfl) (by kernel_rfl) (by kernel_rfl) ⟨by kernel_rfl, by kernel_rfl, by kernel_rfl⟩
def Yj : TI := ⟨2, 32, .struct [(0, 3), (1, 22)], [.int 0, .emp], some (.prod .int (.list .elem))⟩
theorem aiB : aP Tryz.prog 24 Yj := af (by kernel_rfl) (by kernel_rfl) (by kernel_rfl) (by kernel_rfl) (by kernel_rfl) (by kernel_rfl) (by kernel_rfl) (by kernel_rfl) (by kernel_rfl) (by kernel_rfl) (by kernel_rfl) ⟨by kernel_rfl, by kernel_rfl, by kernel_rfl⟩
def Yi : TI := ⟨1, 24, .slice 5, [.emp], some (.list .u8)⟩
theorem aiA : aP Tryz.prog 25 Yi := af (by kernel_rfl) (by kernel_rfl) (by kernel_rfl) (by kernel_rfl) (by kernel_rfl) (by kernel_rfl) (by kernel_rfl) (by kernel_rfl) (by kernel_rfl) (by kernel_rfl) (by kernel_rfl) ⟨by kernel_rfl, by kernel_rfl, by kernel_rfl⟩
def Yh : TI := ⟨1, 24, .slice 45, [.emp], some (.list (.prod .int (.prod .elem (.prod .elem (.prod .elem .bool)))))⟩
theorem aiz : aP Tryz.prog 26 Yh := af (by kernel_rfl) (by kernel_rfl) (by kernel_rfl) (by kernel_rfl) (by kernel_rfl) (by kernel_rfl) (by kernel_rfl) (by kernel_rfl) (by kernel_rfl) (by kernel_rfl) (by kernel_rfl) ⟨by kernel_rfl, by kernel_rfl, by kernel_rfl⟩
def Yg : TI := ⟨1, 8, .other, [.bt], none⟩
theorem aiy : aP Tryz.prog 27 Yg := af (by kernel_rfl) (by kernel_rfl) (by kernel_rfl) (by kernel_rfl) (by kernel_rfl) (by kernel_rfl) (by kernel_rfl) (by kernel_rfl) (by kernel_rfl) (by kernel_rfl) (by kernel_rfl) trivial
def Yf : TI := ⟨1, 8, .other, [.bt], none⟩
theorem aix : aP Tryz.prog 28 Yf := af (by kernel_rfl) (by kernel_rfl) (by kernel_rfl) (by kernel_rfl) (by kernel_rfl) (by kernel_rfl) (by kernel_rfl) (by kernel_rfl) (by kernel_rfl) (by kernel_rfl) (by kernel_rfl) trivial
def Ye : TI := ⟨1, 8, .ptr [("Point", 20), ("Rest", 25), ("Scalar", 22)], [.l7], none⟩
theorem aiw : aP Tryz.prog 29 Ye := af (by kernel_rfl) (by kernel_rfl) (by kernel_rfl) (by kernel_rfl) (by kernel_rfl) (by kernel_rfl) (by kernel_rfl) (by kernel_rfl) (by kernel_rfl) (by kernel_rfl) (by kernel_rfl) trivial
def Yd : TI := ⟨1, 8, .int .i64, [.int 0], some .int⟩
theorem aiv : aP Tryz.prog 30 Yd := af (by kernel_rfl) (by kernel_rfl) (by kernel_rfl) (by kernel_rfl) (by kernel_rfl) (by kernel_rfl) (by kernel_rfl) (by kernel_rfl) (by kernel_rfl) (by kernel_rfl) (by kernel_rfl) ⟨by kernel_rfl, by kernel_rfl, by kernel_rfl⟩
def Yc : TI := ⟨1, 8, .other, [.bt], none⟩
theorem aiu : aP Tryz.prog 32 Yc := af (by kernel_rfl) (by kernel_rfl) (by kernel_rfl) (by kernel_rfl) (by kernel_rfl) (by kernel_rfl) (by kernel_rfl) (by kernel_rfl) (by kernel_rfl) (by kernel_rfl) (by kernel_rfl) trivial
def Yb : TI := ⟨1, 8, .other, [.bt], none⟩
theorem ait : aP Tryz.prog 33 Yb := af (by kernel_rfl) (by kernel_rfl) (by kernel_rfl) (by kernel_rfl) (by kernel_rfl) (by kernel_rfl) (by kernel_rfl) (by kernel_rfl) (by kernel_rfl) (by kernel_rfl) (by kernel_rfl) trivial
def Ya : TI := ⟨6, 96, .struct [(0, 3), (1, 24), (3, 25), (4, 3), (5, 25)], [.int 0, .int 0, .emp, .emp, .int 0, .emp], some (.prod .int (.prod (.prod .int (.list .elem)) (.prod (.list .u8) (.prod .int (.list .u8)))))⟩
theorem ais : aP Tryz.prog 34 Ya := af (by kernel_rfl) (by kernel_rfl) (by kernel_rfl) (by kernel_rfl) (by kernel_rfl) (by kernel_rfl) (by kernel_rfl) (by kernel_rfl) (by kernel_rfl) (by kernel_rfl) (by kernel_rfl) ⟨by kernel_rfl, by kernel_rfl, by kernel_rfl⟩
def X9 : TI := ⟨6, 96, .struct [(0, 3), (1, 24), (3, 25), (4, 3), (5, 25)], [.int 0, .int 0, .emp, .emp, .int 0, .emp], some (.prod .int (.prod (.prod .int (.list .elem)) (.prod (.list .u8) (.prod .int (.list .u8)))))⟩
theorem air : aP Tryz.prog 35 X9 := af (by kernel_rfl) (by kernel_rfl) (by kernel_rfl) (by kernel_rfl) (by kernel_rfl) (by kernel_rfl) (by kernel_rfl) (by kernel_rfl) (by kernel_rfl) (by kernel_rfl) (by kernel_rfl) ⟨by kernel_rfl, by kernel_rfl, by kernel_rfl⟩
def X8 : TI := ⟨1, 8, .other, [.bt], none⟩
theorem aiq : aP Tryz.prog 37 X8 := af (by kernel_rfl) (by kernel_rfl) (by kernel_rfl) (by kernel_rfl) (by kernel_rfl) (by kernel_rfl) (by kernel_rfl) (by kernel_rfl) (by kernel_rfl) (by kernel_rfl) (by kernel_rfl) trivial
def X7 : TI := ⟨1, 8, .other, [.bt], none⟩
theorem aip : aP Tryz.prog 38 X7 := af (by kernel_rfl) (by kernel_rfl) (by kernel_rfl) (by kernel_rfl) (by kernel_rfl) (by kernel_rfl) (by kernel_rfl) (by kernel_rfl) (by kernel_rfl) (by kernel_rfl) (by kernel_rfl) trivial
def X6 : TI := ⟨1, 8, .int .u64, [.u64 0], some .u64⟩
theorem aio : aP Tryz.prog 39 X6 := af (by kernel_rfl) (by kernel_rfl) (by kernel_rfl) (by kernel_rfl) (by kernel_rfl) (by kernel_rfl) (by kernel_rfl) (by kernel_rfl) (by kernel_rfl) (by kernel_rfl) (by kernel_rfl) ⟨by kernel_rfl, by kernel_rfl, by kernel_rfl⟩
def X5 : TI := ⟨4, 32, .array 4 39, [.u64 0, .u64 0, .u64 0, .u64 0], some .elem⟩
theorem ain : aP Tryz.prog 40 X5 := af (by kernel_rfl) (by kernel_rfl) (by kernel_rfl) (by kernel_rfl) (by kernel_rfl) (by kernel_rfl) (by kernel_rfl) (by kernel_rfl) (by kernel_rfl) (by kernel_rfl) (by kernel_rfl) ⟨by kernel_rfl, by kernel_rfl, by kernel_rfl⟩
def X4 : TI := ⟨4, 32, .array 4 39, [.u64 0, .u64 0, .u64 0, .u64 0], some .elem⟩
theorem aim : aP Tryz.prog 41 X4 := af (by kernel_rfl) (by kernel_rfl) (by kernel_rfl) (by kernel_rfl) (by kernel_rfl) (by kernel_rfl) (by kernel_rfl) (by kernel_rfl) (by kernel_rfl) (by kernel_rfl) (by kernel_rfl) ⟨by kernel_rfl, by kernel_rfl, by kernel_rfl⟩
def X3 : TI := ⟨9, 72, .struct [(0, 41), (4, 41), (8, 4)], [.u64 0, .u64 0, .u64 0, .u64 0, .u64 0, .u64 0, .u64 0, .u64 0, .bool false], some (.prod .elem (.prod .elem .bool))⟩
theorem ail : aP Tryz.prog 42 X3 := af (by kernel_rfl) (by kernel_rfl) (by kernel_rfl) (by kernel_rfl) (by kernel_rfl) (by kernel_rfl) (by kernel_rfl) (by kernel_rfl) (by kernel_rfl) (by kernel_rfl) (by kernel_rfl) ⟨by kernel_rfl, by kernel_rfl, by kernel_rfl⟩
def X1 : TI := ⟨9, 72, .struct [(0, 41), (4, 41), (8, 4)], [.u64 0, .u64 0, .u64 0, .u64 0, .u64 0, .u64 0, .u64 0, .u64 0, .bool false], some (.prod .elem (.prod .elem .bool))⟩
theorem aik : aP Tryz.prog 43 X1 := af (by kernel_rfl) (by kernel_rfl) (by kernel_rfl) (by kernel_rfl) (by kernel_rfl) (by kernel_rfl) (by kernel_rfl) (by kernel_rfl) (by kernel_rfl) (by kernel_rfl) (by kernel_rfl) ⟨by kernel_rfl, by kernel_rfl, by kernel_rfl⟩
def X0 : TI := ⟨14, 112, .struct [(0, 3), (1, 41), (5, 43)], [.int 0, .u64 0, .u64 0, .u64 0, .u64 0, .u64 0, .u64 0, .u64 0, .u64 0, .u64 0, .u64 0, .u64 0, .u64 0, .bool false], some (.prod .int (.prod .elem (.prod .elem (.prod .elem .bool))))⟩
theorem aij : aP Tryz.prog 44 X0 := af (by kernel_rfl) (by kernel_rfl) (by kernel_rfl) (by kernel_rfl) (by kernel_rfl) (by kernel_rfl) (by kernel_rfl) (by kernel_rfl) (by kernel_rfl) (by kernel_rfl) (by kernel_rfl) ⟨by kernel_rfl, by kernel_rfl, by kernel_rfl⟩
def XZ : TI := ⟨14, 112, .struct [(0, 3), (1, 41), (5, 43)], [.int 0, .u64 0, .u64 0, .u64 0, .u64 0, .u64 0, .u64 0, .u64 0, .u64 0, .u64 0, .u64 0, .u64 0, .u64 0, .bool false], some (.prod .int (.prod .elem (.prod .elem (.prod .elem .bool))))⟩
theorem aii : aP Tryz.prog 45 XZ := af (by kernel_rfl) (by kernel_rfl) (by kernel_rfl) (by kernel_rfl) (by kernel_rfl) (by kernel_rfl) (by kernel_rfl) (by kernel_rfl) (by kernel_rfl) (by kernel_rfl) (by kernel_rfl) ⟨by kernel_rfl, by kernel_rfl, by kernel_rfl⟩
def XY : TI := ⟨1, 8, .other, [.bt], none⟩
theorem aih : aP Tryz.prog 46 XY := af (by kernel_rfl) (by kernel_rfl) (by kernel_rfl) (by kernel_rfl) (by kernel_rfl) (by kernel_rfl) (by kernel_rfl) (by kernel_rfl) (by kernel_rfl) (by kernel_rfl) (by kernel_rfl) trivial
def XX : TI := ⟨1, 16, .iface, [.c9], none⟩
theorem aif : aP Tryz.prog 47 XX := af (by kernel_rfl) (by kernel_rfl) (by kernel_rfl) (by kernel_rfl) (by kernel_rfl) (by kernel_rfl) (by kernel_rfl) (by kernel_rfl) (by kernel_rfl) (by kernel_rfl) (by kernel_rfl) trivial
def XW : TI := ⟨1, 16, .iface, [.c9], none⟩
theorem aie : aP Tryz.prog 48 XW := af (by kernel_rfl) (by kernel_rfl) (by kernel_rfl) (by kernel_rfl) (by kernel_rfl) (by kernel_rfl) (by kernel_rfl) (by kernel_rfl) (by kernel_rfl) (by kernel_rfl) (by kernel_rfl) trivial
def XV : TI := ⟨2, 24, .struct [(0, 3), (1, 48)], [.int 0, .c9], none⟩
theorem aid : aP Tryz.prog 49 XV := af (by kernel_rfl) (by kernel_rfl) (by kernel_rfl) (by kernel_rfl) (by kernel_rfl) (by kernel_rfl) (by kernel_rfl) (by kernel_rfl) (by kernel_rfl) (by kernel_rfl) (by kernel_rfl) trivial
def XU : TI := ⟨2, 24, .struct [(0, 3), (1, 48)], [.int 0, .c9], none⟩
theorem aic : aP Tryz.prog 50 XU := af (by kernel_rfl) (by kernel_rfl) (by kernel_rfl) (by kernel_rfl) (by kernel_rfl) (by kernel_rfl) (by kernel_rfl) (by kernel_rfl) (by kernel_rfl) (by kernel_rfl) (by kernel_rfl) trivial
def XT : TI := ⟨3, 48, .struct [(0, 50), (2, 25)], [.int 0, .c9, .emp], none⟩
theorem aib : aP Tryz.prog 51 XT := af (by kernel_rfl) (by kernel_rfl) (by kernel_rfl) (by kernel_rfl) (by kernel_rfl) (by kernel_rfl) (by kernel_rfl) (by kernel_rfl) (by kernel_rfl) (by kernel_rfl) (by kernel_rfl) trivial
def XS : TI := ⟨3, 48, .struct [(0, 50), (2, 25)], [.int 0, .c9, .emp], none⟩
theorem aia : aP Tryz.prog 52 XS := af (by kernel_rfl) (by kernel_rfl) (by kernel_rfl) (by kernel_rfl) (by kernel_rfl) (by kernel_rfl) (by kernel_rfl) (by kernel_rfl) (by kernel_rfl) (by kernel_rfl) (by kernel_rfl) trivial
def XR : TI := ⟨1, 8, .other, [.bt], none⟩
theorem ah9 : aP Tryz.prog 53 XR := af (by kernel_rfl) (by kernel_rfl) (by kernel_rfl) (by kernel_rfl) (by kernel_rfl) (by kernel_rfl) (by kernel_rfl) (by kernel_rfl) (by kernel_rfl) (by kernel_rfl) (by kernel_rfl) trivial
def XQ : TI := ⟨1, 8, .other, [.bt], none⟩
theorem ah8 : aP Tryz.prog 55 XQ := af (by kernel_rfl) (by kernel_rfl) (by kernel_rfl) (by kernel_rfl) (by kernel_rfl) (by kernel_rfl) (by kernel_rfl) (by kernel_rfl) (by kernel_rfl) (by kernel_rfl) (by kernel_rfl) trivial
def XP : TI := ⟨1, 8, .other, [.bt], none⟩
theorem ah7 : aP Tryz.prog 57 XP := af (by kernel_rfl) (by kernel_rfl) (by kernel_rfl) (by kernel_rfl) (by kernel_rfl) (by kernel_rfl) (by kernel_rfl) (by kernel_rfl) (by kernel_rfl) (by kernel_rfl) (by kernel_rfl) trivial
def XO : TI := ⟨1, 8, .other, [.bt], none⟩
theorem ah6 : aP Tryz.prog 59 XO := af (by kernel_rfl) (by kernel_rfl) (by kernel_rfl) (by kernel_rfl) (by kernel_rfl) (by kernel_rfl) (by kernel_rfl) (by kernel_rfl) (by kernel_rfl) (by kernel_rfl) (by kernel_rfl) trivial
def XN : TI := ⟨1, 8, .other, [.bt], none⟩
theorem ah5 : aP Tryz.prog 61 XN := af (by kernel_rfl) (by kernel_rfl) (by kernel_rfl) (by kernel_rfl) (by kernel_rfl) (by kernel_rfl) (by kernel_rfl) (by kernel_rfl) (by kernel_rfl) (by kernel_rfl) (by kernel_rfl) trivial
def XM : TI := ⟨1, 8, .other, [.bt], none⟩
theorem ah4 : aP Tryz.prog 62 XM := af (by kernel_rfl) (by kernel_rfl) (by kernel_rfl) (by kernel_rfl) (by kernel_rfl) (by kernel_rfl) (by kernel_rfl) (by kernel_rfl) (by kernel_rfl) (by kernel_rfl) (by kernel_rfl) trivial
def XL : TI := ⟨1, 8, .other, [.bt], none⟩
theorem ah3 : aP Tryz.prog 63 XL := af (by kernel_rfl) (by kernel_rfl) (by kernel_rfl) (by kernel_rfl) (by kernel_rfl) (by kernel_rfl) (by kernel_rfl) (by kernel_rfl) (by kernel_rfl) (by kernel_rfl) (by kernel_rfl) trivial
def XK : TI := ⟨1, 8, .other, [.bt], none⟩
theorem ah2 : aP Tryz.prog 64 XK := af (by kernel_rfl) (by kernel_rfl) (by kernel_rfl) (by kernel_rfl) (by kernel_rfl) (by kernel_rfl) (by kernel_rfl) (by kernel_rfl) (by kernel_rfl) (by kernel_rfl) (by kernel_rfl) trivial
def XJ : TI := ⟨1, 8, .other, [.bt], none⟩
theorem ah1 : aP Tryz.prog 65 XJ := af (by kernel_rfl) (by kernel_rfl) (by kernel_rfl) (by kernel_rfl) (by kernel_rfl) (by kernel_rfl) (by kernel_rfl) (by kernel_rfl) (by kernel_rfl) (by kernel_rfl) (by kernel_rfl) trivial
def XI : TI := ⟨1, 8, .other, [.bt], none⟩
theorem ah0 : aP Tryz.prog 66 XI := af (by kernel_rfl) (by kernel_rfl) (by kernel_rfl) (by kernel_rfl) (by kernel_rfl) (by kernel_rfl) (by kernel_rfl) (by kernel_rfl) (by kernel_rfl) (by kernel_rfl) (by kernel_rfl) trivial
def XH : TI := ⟨1, 24, .slice 43, [.emp], some (.list (.prod .elem (.prod .elem .bool)))⟩
theorem ahZ : aP Tryz.prog 67 XH := af (by kernel_rfl) (by kernel_rfl) (by kernel_rfl) (by kernel_rfl) (by kernel_rfl) (by kernel_rfl) (by kernel_rfl) (by kernel_rfl) (by kernel_rfl) (by kernel_rfl) (by kernel_rfl) ⟨by kernel_rfl, by kernel_rfl, by kernel_rfl⟩
def XG : TI := ⟨21, 184, .struct [(0, 3), (1, 3), (2, 67), (3, 43), (12, 43)], [.int 0, .int 0, .emp, .u64 0, .u64 0, .u64 0, .u64 0, .u64 0, .u64 0, .u64 0, .u64 0, .bool false, .u64 0, .u64 0, .u64 0, .u64 0, .u64 0, .u64 0, .u64 0, .u64 0, .bool false], some (.prod .int (.prod .int (.prod (.list (.prod .elem (.prod .elem .bool))) (.prod (.prod .elem (.prod .elem .bool)) (.prod .elem (.prod .elem .bool))))))⟩
theorem ahY : aP Tryz.prog 68 XG := af (by kernel_rfl) (by kernel_rfl) (by kernel_rfl) (by kernel_rfl) (by kernel_rfl) (by kernel_rfl) (by kernel_rfl) (by kernel_rfl) (by kernel_rfl) (by kernel_rfl) (by kernel_rfl) ⟨by kernel_rfl, by kernel_rfl, by kernel_rfl⟩
def XF : TI := ⟨21, 184, .struct [(0, 3), (1, 3), (2, 67), (3, 43), (12, 43)], [.int 0, .int 0, .emp, .u64 0, .u64 0, .u64 0, .u64 0, .u64 0, .u64 0, .u64 0, .u64 0, .bool false, .u64 0, .u64 0, .u64 0, .u64 0, .u64 0, .u64 0, .u64 0, .u64 0, .bool false], some (.prod .int (.prod .int (.prod (.list (.prod .elem (.prod .elem .bool))) (.prod (.prod .elem (.prod .elem .bool)) (.prod .elem (.prod .elem .bool))))))⟩
theorem ahX : aP Tryz.prog 69 XF := af (by kernel_rfl) (by kernel_rfl) (by kernel_rfl) (by kernel_rfl) (by kernel_rfl) (by kernel_rfl) (by kernel_rfl) (by kernel_rfl) (by kernel_rfl) (by kernel_rfl) (by kernel_rfl) ⟨by kernel_rfl, by kernel_rfl, by kernel_rfl⟩
def XE : TI := ⟨1, 8, .other, [.bt], none⟩
theorem ahW : aP Tryz.prog 71 XE := af (by kernel_rfl) (by kernel_rfl) (by kernel_rfl) (by kernel_rfl) (by kernel_rfl) (by kernel_rfl) (by kernel_rfl) (by kernel_rfl) (by kernel_rfl) (by kernel_rfl) (by kernel_rfl) trivial
def XD : TI := ⟨1, 8, .other, [.bt], none⟩
theorem ahV : aP Tryz.prog 72 XD := af (by kernel_rfl) (by kernel_rfl) (by kernel_rfl) (by kernel_rfl) (by kernel_rfl) (by kernel_rfl) (by kernel_rfl) (by kernel_rfl) (by kernel_rfl) (by kernel_rfl) (by kernel_rfl) trivial
def XC : TI := ⟨1, 8, .other, [.bt], none⟩
theorem ahU : aP Tryz.prog 73 XC := af (by kernel_rfl) (by kernel_rfl) (by kernel_rfl) (by kernel_rfl) (by kernel_rfl) (by kernel_rfl) (by kernel_rfl) (by kernel_rfl) (by kernel_rfl) (by kernel_rfl) (by kernel_rfl) trivial
def XB : TI := ⟨1, 8, .other, [.bt], none⟩
theorem ahT : aP Tryz.prog 74 XB := af (by kernel_rfl) (by kernel_rfl) (by kernel_rfl) (by kernel_rfl) (by kernel_rfl) (by kernel_rfl) (by kernel_rfl) (by kernel_rfl) (by kernel_rfl) (by kernel_rfl) (by kernel_rfl) trivial
def XA : TI := ⟨1, 8, .other, [.bt], none⟩
theorem ahS : aP Tryz.prog 75 XA := af (by kernel_rfl) (by kernel_rfl) (by kernel_rfl) (by kernel_rfl) (by kernel_rfl) (by kernel_rfl) (by kernel_rfl) (by kernel_rfl) (by kernel_rfl) (by kernel_rfl) (by kernel_rfl) trivial
def Xz : TI := ⟨1, 8, .other, [.bt], none⟩
theorem ahR : aP Tryz.prog 76 Xz := af (by kernel_rfl) (by kernel_rfl) (by kernel_rfl) (by kernel_rfl) (by kernel_rfl) (by kernel_rfl) (by kernel_rfl) (by kernel_rfl) (by kernel_rfl) (by kernel_rfl) (by kernel_rfl) trivial
def Xy : TI := ⟨1, 8, .other, [.bt], none⟩
theorem ahQ : aP Tryz.prog 77 Xy := af (by kernel_rfl) (by kernel_rfl) (by kernel_rfl) (by kernel_rfl) (by kernel_rfl) (by kernel_rfl) (by kernel_rfl) (by kernel_rfl) (by kernel_rfl) (by kernel_rfl) (by kernel_rfl) trivial
def Xx : TI := ⟨1, 8, .other, [.bt], none⟩
theorem ahP : aP Tryz.prog 78 Xx := af (by kernel_rfl) (by kernel_rfl) (by kernel_rfl) (by kernel_rfl) (by kernel_rfl) (by kernel_rfl) (by kernel_rfl) (by kernel_rfl) (by kernel_rfl) (by kernel_rfl) (by kernel_rfl) trivial
def Xw : TI := ⟨1, 8, .other, [.bt], none⟩
theorem ahO : aP Tryz.prog 79 Xw := af (by kernel_rfl) (by kernel_rfl) (by kernel_rfl) (by kernel_rfl) (by kernel_rfl) (by kernel_rfl) (by kernel_rfl) (by kernel_rfl) (by kernel_rfl) (by kernel_rfl) (by kernel_rfl) trivial
def Xv : TI := ⟨1, 8, .other, [.bt], none⟩
theorem ahN : aP Tryz.prog 80 Xv := af (by kernel_rfl) (by kernel_rfl) (by kernel_rfl) (by kernel_rfl) (by kernel_rfl) (by kernel_rfl) (by kernel_rfl) (by kernel_rfl) (by kernel_rfl) (by kernel_rfl) (by kernel_rfl) trivial
def Xu : TI := ⟨1, 8, .other, [.bt], none⟩
theorem ahM : aP Tryz.prog 81 Xu := af (by kernel_rfl) (by kernel_rfl) (by kernel_rfl) (by kernel_rfl) (by kernel_rfl) (by kernel_rfl) (by kernel_rfl) (by kernel_rfl) (by kernel_rfl) (by kernel_rfl) (by kernel_rfl) trivial
def Xt : TI := ⟨1, 8, .other, [.bt], none⟩
theorem ahL : aP Tryz.prog 82 Xt := af (by kernel_rfl) (by kernel_rfl) (by kernel_rfl) (by kernel_rfl) (by kernel_rfl) (by kernel_rfl) (by kernel_rfl) (by kernel_rfl) (by kernel_rfl) (by kernel_rfl) (by kernel_rfl) trivial
def Xs : TI := ⟨1, 8, .other, [.bt], none⟩
theorem ahK : aP Tryz.prog 83 Xs := af (by kernel_rfl) (by kernel_rfl) (by kernel_rfl) (by kernel_rfl) (by kernel_rfl) (by kernel_rfl) (by kernel_rfl) (by kernel_rfl) (by kernel_rfl) (by kernel_rfl) (by kernel_rfl) trivial
def Xr : TI := ⟨1, 8, .other, [.bt], none⟩
theorem ahJ : aP Tryz.prog 84 Xr := af (by kernel_rfl) (by kernel_rfl) (by kernel_rfl) (by kernel_rfl) (by kernel_rfl) (by kernel_rfl) (by kernel_rfl) (by kernel_rfl) (by kernel_rfl) (by kernel_rfl) (by kernel_rfl) trivial
def Xq : TI := ⟨1, 8, .other, [.bt], none⟩
theorem ahI : aP Tryz.prog 85 Xq := af (by kernel_rfl) (by kernel_rfl) (by kernel_rfl) (by kernel_rfl) (by kernel_rfl) (by kernel_rfl) (by kernel_rfl) (by kernel_rfl) (by kernel_rfl) (by kernel_rfl) (by kernel_rfl) trivial
def Xp : TI := ⟨1, 8, .int .u64, [.u64 0], some .u64⟩
theorem ahH : aP Tryz.prog 86 Xp := af (by kernel_rfl) (by kernel_rfl) (by kernel_rfl) (by kernel_rfl) (by kernel_rfl) (by kernel_rfl) (by kernel_rfl) (by kernel_rfl) (by kernel_rfl) (by kernel_rfl) (by kernel_rfl) ⟨by kernel_rfl, by kernel_rfl, by kernel_rfl⟩
def Xo : TI := ⟨1, 8, .ptr [("Bytes", 50), ("Scalar", 49), ("sigil/tape.say", 88)], [.l7], none⟩
theorem ahG : aP Tryz.prog 87 Xo := af (by kernel_rfl) (by kernel_rfl) (by kernel_rfl) (by kernel_rfl) (by kernel_rfl) (by kernel_rfl) (by kernel_rfl) (by kernel_rfl) (by kernel_rfl) (by kernel_rfl) (by kernel_rfl) trivial
def Xn : TI := ⟨1, 8, .other, [.bt], none⟩
theorem ahF : aP Tryz.prog 89 Xn := af (by kernel_rfl) (by kernel_rfl) (by kernel_rfl) (by kernel_rfl) (by kernel_rfl) (by kernel_rfl) (by kernel_rfl) (by kernel_rfl) (by kernel_rfl) (by kernel_rfl) (by kernel_rfl) trivial
def Xm : TI := ⟨3, 48, .struct [(0, 50), (2, 25)], [.int 0, .c9, .emp], none⟩
theorem ahE : aP Tryz.prog 90 Xm := af (by kernel_rfl) (by kernel_rfl) (by kernel_rfl) (by kernel_rfl) (by kernel_rfl) (by kernel_rfl) (by kernel_rfl) (by kernel_rfl) (by kernel_rfl) (by kernel_rfl) (by kernel_rfl) trivial
def Xl : TI := ⟨3, 48, .struct [(0, 50), (2, 25)], [.int 0, .c9, .emp], none⟩
theorem ahD : aP Tryz.prog 91 Xl := af (by kernel_rfl) (by kernel_rfl) (by kernel_rfl) (by kernel_rfl) (by kernel_rfl) (by kernel_rfl) (by kernel_rfl) (by kernel_rfl) (by kernel_rfl) (by kernel_rfl) (by kernel_rfl) trivial
def Xk : TI := ⟨1, 8, .other, [.bt], none⟩
theorem ahC : aP Tryz.prog 92 Xk := af (by kernel_rfl) (by kernel_rfl) (by kernel_rfl) (by kernel_rfl) (by kernel_rfl) (by kernel_rfl) (by kernel_rfl) (by kernel_rfl) (by kernel_rfl) (by kernel_rfl) (by kernel_rfl) trivial
def Xj : TI := ⟨1, 8, .other, [.bt], none⟩
theorem ahB : aP Tryz.prog 94 Xj := af (by kernel_rfl) (by kernel_rfl) (by kernel_rfl) (by kernel_rfl) (by kernel_rfl) (by kernel_rfl) (by kernel_rfl) (by kernel_rfl) (by kernel_rfl) (by kernel_rfl) (by kernel_rfl) trivial
def Xi : TI := ⟨1, 8, .ptr [("Challenge", 24), ("Curve", 26), ("Hear", 17)], [.l7], none⟩
theorem ahA : aP Tryz.prog 95 Xi := af (by kernel_rfl) (by kernel_rfl) (by kernel_rfl) (by kernel_rfl) (by kernel_rfl) (by kernel_rfl) (by kernel_rfl) (by kernel_rfl) (by kernel_rfl) (by kernel_rfl) (by kernel_rfl) trivial
def Xh : TI := ⟨1, 8, .other, [.bt], none⟩
theorem ahz : aP Tryz.prog 96 Xh := af (by kernel_rfl) (by kernel_rfl) (by kernel_rfl) (by kernel_rfl) (by kernel_rfl) (by kernel_rfl) (by kernel_rfl) (by kernel_rfl) (by kernel_rfl) (by kernel_rfl) (by kernel_rfl) trivial
def Xg : TI := ⟨1, 8, .other, [.bt], none⟩
theorem ahy : aP Tryz.prog 97 Xg := af (by kernel_rfl) (by kernel_rfl) (by kernel_rfl) (by kernel_rfl) (by kernel_rfl) (by kernel_rfl) (by kernel_rfl) (by kernel_rfl) (by kernel_rfl) (by kernel_rfl) (by kernel_rfl) trivial
def Xf : TI := ⟨1, 8, .other, [.bt], none⟩
theorem ahx : aP Tryz.prog 98 Xf := af (by kernel_rfl) (by kernel_rfl) (by kernel_rfl) (by kernel_rfl) (by kernel_rfl) (by kernel_rfl) (by kernel_rfl) (by kernel_rfl) (by kernel_rfl) (by kernel_rfl) (by kernel_rfl) trivial
def Xe : TI := ⟨1, 8, .other, [.bt], none⟩
theorem ahw : aP Tryz.prog 99 Xe := af (by kernel_rfl) (by kernel_rfl) (by kernel_rfl) (by kernel_rfl) (by kernel_rfl) (by kernel_rfl) (by kernel_rfl) (by kernel_rfl) (by kernel_rfl) (by kernel_rfl) (by kernel_rfl) trivial
def Rl : TI := ⟨1, 8, .other, [.bt], none⟩
theorem aew : aP Tryz.prog 100 Rl := af (by kernel_rfl) (by kernel_rfl) (by kernel_rfl) (by kernel_rfl) (by kernel_rfl) (by kernel_rfl) (by kernel_rfl) (by kernel_rfl) (by kernel_rfl) (by kernel_rfl) (by kernel_rfl) trivial
def Rk : TI := ⟨1, 8, .other, [.bt], none⟩
theorem aev : aP Tryz.prog 101 Rk := af (by kernel_rfl) (by kernel_rfl) (by kernel_rfl) (by kernel_rfl) (by kernel_rfl) (by kernel_rfl) (by kernel_rfl) (by kernel_rfl) (by kernel_rfl) (by kernel_rfl) (by kernel_rfl) trivial
def Rj : TI := ⟨1, 8, .other, [.bt], none⟩
theorem aeu : aP Tryz.prog 102 Rj := af (by kernel_rfl) (by kernel_rfl) (by kernel_rfl) (by kernel_rfl) (by kernel_rfl) (by kernel_rfl) (by kernel_rfl) (by kernel_rfl) (by kernel_rfl) (by kernel_rfl) (by kernel_rfl) trivial
def Ri : TI := ⟨1, 8, .other, [.bt], none⟩
theorem aet : aP Tryz.prog 103 Ri := af (by kernel_rfl) (by kernel_rfl) (by kernel_rfl) (by kernel_rfl) (by kernel_rfl) (by kernel_rfl) (by kernel_rfl) (by kernel_rfl) (by kernel_rfl) (by kernel_rfl) (by kernel_rfl) trivial
def Rh : TI := ⟨1, 8, .other, [.bt], none⟩
theorem aes : aP Tryz.prog 105 Rh := af (by kernel_rfl) (by kernel_rfl) (by kernel_rfl) (by kernel_rfl) (by kernel_rfl) (by kernel_rfl) (by kernel_rfl) (by kernel_rfl) (by kernel_rfl) (by kernel_rfl) (by kernel_rfl) trivial
def Rg : TI := ⟨1, 8, .other, [.bt], none⟩
theorem aer : aP Tryz.prog 106 Rg := af (by kernel_rfl) (by kernel_rfl) (by kernel_rfl) (by kernel_rfl) (by kernel_rfl) (by kernel_rfl) (by kernel_rfl) (by kernel_rfl) (by kernel_rfl) (by kernel_rfl) (by kernel_rfl) trivial
def Rf : TI := ⟨1, 8, .other, [.bt], none⟩
theorem aeq : aP Tryz.prog 107 Rf := af (by kernel_rfl) (by kernel_rfl) (by kernel_rfl) (by kernel_rfl) (by kernel_rfl) (by kernel_rfl) (by kernel_rfl) (by kernel_rfl) (by kernel_rfl) (by kernel_rfl) (by kernel_rfl) trivial
def Re : TI := ⟨1, 8, .other, [.bt], none⟩
theorem aep : aP Tryz.prog 108 Re := af (by kernel_rfl) (by kernel_rfl) (by kernel_rfl) (by kernel_rfl) (by kernel_rfl) (by kernel_rfl) (by kernel_rfl) (by kernel_rfl) (by kernel_rfl) (by kernel_rfl) (by kernel_rfl) trivial
def Rd : TI := ⟨1, 8, .other, [.bt], none⟩
theorem aeo : aP Tryz.prog 109 Rd := af (by kernel_rfl) (by kernel_rfl) (by kernel_rfl) (by kernel_rfl) (by kernel_rfl) (by kernel_rfl) (by kernel_rfl) (by kernel_rfl) (by kernel_rfl) (by kernel_rfl) (by kernel_rfl) trivial
def Rc : TI := ⟨1, 8, .other, [.bt], none⟩
theorem aen : aP Tryz.prog 110 Rc := af (by kernel_rfl) (by kernel_rfl) (by kernel_rfl) (by kernel_rfl) (by kernel_rfl) (by kernel_rfl) (by kernel_rfl) (by kernel_rfl) (by kernel_rfl) (by kernel_rfl) (by kernel_rfl) trivial
def Rb : TI := ⟨13, 104, .struct [(0, 41), (4, 43)], [.u64 0, .u64 0, .u64 0, .u64 0, .u64 0, .u64 0, .u64 0, .u64 0, .u64 0, .u64 0, .u64 0, .u64 0, .bool false], some (.prod .elem (.prod .elem (.prod .elem .bool)))⟩
theorem aem : aP Tryz.prog 111 Rb := af (by kernel_rfl) (by kernel_rfl) (by kernel_rfl) (by kernel_rfl) (by kernel_rfl) (by kernel_rfl) (by kernel_rfl) (by kernel_rfl) (by kernel_rfl) (by kernel_rfl) (by kernel_rfl) ⟨by kernel_rfl, by kernel_rfl, by kernel_rfl⟩
def Ra : TI := ⟨13, 104, .struct [(0, 41), (4, 43)], [.u64 0, .u64 0, .u64 0, .u64 0, .u64 0, .u64 0, .u64 0, .u64 0, .u64 0, .u64 0, .u64 0, .u64 0, .bool false], some (.prod .elem (.prod .elem (.prod .elem .bool)))⟩
theorem ael : aP Tryz.prog 112 Ra := af (by kernel_rfl) (by kernel_rfl) (by kernel_rfl) (by kernel_rfl) (by kernel_rfl) (by kernel_rfl) (by kernel_rfl) (by kernel_rfl) (by kernel_rfl) (by kernel_rfl) (by kernel_rfl) ⟨by kernel_rfl, by kernel_rfl, by kernel_rfl⟩
def Q9 : TI := ⟨1, 24, .slice 112, [.emp], some (.list (.prod .elem (.prod .elem (.prod .elem .bool))))⟩
theorem aek : aP Tryz.prog 113 Q9 := af (by kernel_rfl) (by kernel_rfl) (by kernel_rfl) (by kernel_rfl) (by kernel_rfl) (by kernel_rfl) (by kernel_rfl) (by kernel_rfl) (by kernel_rfl) (by kernel_rfl) (by kernel_rfl) ⟨by kernel_rfl, by kernel_rfl, by kernel_rfl⟩
def Q8 : TI := ⟨1, 8, .other, [.bt], none⟩
theorem aej : aP Tryz.prog 114 Q8 := af (by kernel_rfl) (by kernel_rfl) (by kernel_rfl) (by kernel_rfl) (by kernel_rfl) (by kernel_rfl) (by kernel_rfl) (by kernel_rfl) (by kernel_rfl) (by kernel_rfl) (by kernel_rfl) trivial
def Q7 : TI := ⟨1, 8, .other, [.bt], none⟩
theorem aei : aP Tryz.prog 115 Q7 := af (by kernel_rfl) (by kernel_rfl) (by kernel_rfl) (by kernel_rfl) (by kernel_rfl) (by kernel_rfl) (by kernel_rfl) (by kernel_rfl) (by kernel_rfl) (by kernel_rfl) (by kernel_rfl) trivial
def Q6 : TI := ⟨11, 88, .struct [(0, 41), (4, 3), (5, 39), (6, 39), (7, 41)], [.u64 0, .u64 0, .u64 0, .u64 0, .int 0, .u64 0, .u64 0, .u64 0, .u64 0, .u64 0, .u64 0], some (.prod .elem (.prod .int (.prod .u64 (.prod .u64 .elem))))⟩
theorem aeh : aP Tryz.prog 116 Q6 := af (by kernel_rfl) (by kernel_rfl) (by kernel_rfl) (by kernel_rfl) (by kernel_rfl) (by kernel_rfl) (by kernel_rfl) (by kernel_rfl) (by kernel_rfl) (by kernel_rfl) (by kernel_rfl) ⟨by kernel_rfl, by kernel_rfl, by kernel_rfl⟩
def Q5 : TI := ⟨11, 88, .struct [(0, 41), (4, 3), (5, 39), (6, 39), (7, 41)], [.u64 0, .u64 0, .u64 0, .u64 0, .int 0, .u64 0, .u64 0, .u64 0, .u64 0, .u64 0, .u64 0], some (.prod .elem (.prod .int (.prod .u64 (.prod .u64 .elem))))⟩
theorem aeg : aP Tryz.prog 117 Q5 := af (by kernel_rfl) (by kernel_rfl) (by kernel_rfl) (by kernel_rfl) (by kernel_rfl) (by kernel_rfl) (by kernel_rfl) (by kernel_rfl) (by kernel_rfl) (by kernel_rfl) (by kernel_rfl) ⟨by kernel_rfl, by kernel_rfl, by kernel_rfl⟩
def Q4 : TI := ⟨1, 8, .other, [.bt], none⟩
theorem aef : aP Tryz.prog 119 Q4 := af (by kernel_rfl) (by kernel_rfl) (by kernel_rfl) (by kernel_rfl) (by kernel_rfl) (by kernel_rfl) (by kernel_rfl) (by kernel_rfl) (by kernel_rfl) (by kernel_rfl) (by kernel_rfl) trivial
def Q3 : TI := ⟨1, 8, .other, [.bt], none⟩
theorem aee : aP Tryz.prog 120 Q3 := af (by kernel_rfl) (by kernel_rfl) (by kernel_rfl) (by kernel_rfl) (by kernel_rfl) (by kernel_rfl) (by kernel_rfl) (by kernel_rfl) (by kernel_rfl) (by kernel_rfl) (by kernel_rfl) trivial
def Q2 : TI := ⟨1, 8, .other, [.bt], none⟩
theorem aed : aP Tryz.prog 121 Q2 := af (by kernel_rfl) (by kernel_rfl) (by kernel_rfl) (by kernel_rfl) (by kernel_rfl) (by kernel_rfl) (by kernel_rfl) (by kernel_rfl) (by kernel_rfl) (by kernel_rfl) (by kernel_rfl) trivial
def Q1 : TI := ⟨1, 8, .int .i64, [.int 0], some .int⟩
theorem aec : aP Tryz.prog 122 Q1 := af (by kernel_rfl) (by kernel_rfl) (by kernel_rfl) (by kernel_rfl) (by kernel_rfl) (by kernel_rfl) (by kernel_rfl) (by kernel_rfl) (by kernel_rfl) (by kernel_rfl) (by kernel_rfl) ⟨by kernel_rfl, by kernel_rfl, by kernel_rfl⟩
def Q0 : TI := ⟨1, 8, .other, [.bt], none⟩
theorem aeb : aP Tryz.prog 123 Q0 := af (by kernel_rfl) (by kernel_rfl) (by kernel_rfl) (by kernel_rfl) (by kernel_rfl) (by kernel_rfl) (by kernel_rfl) (by kernel_rfl) (by kernel_rfl) (by kernel_rfl) (by kernel_rfl) trivial
def QZ : TI := ⟨12, 96, .struct [(0, 41), (4, 41), (8, 41)], List.replicate 12 (.u64 0), some (.prod .elem (.prod .elem .elem))⟩
theorem aea : aP Tryz.prog 124 QZ := af (by kernel_rfl) (by kernel_rfl) (by kernel_rfl) (by kernel_rfl) (by kernel_rfl) (by kernel_rfl) (by kernel_rfl) (by kernel_rfl) (by kernel_rfl) (by kernel_rfl) (by kernel_rfl) ⟨by kernel_rfl, by kernel_rfl, by kernel_rfl⟩
def QY : TI := ⟨12, 96, .struct [(0, 41), (4, 41), (8, 41)], List.replicate 12 (.u64 0), some (.prod .elem (.prod .elem .elem))⟩
theorem ad9 : aP Tryz.prog 125 QY := af (by kernel_rfl) (by kernel_rfl) (by kernel_rfl) (by kernel_rfl) (by kernel_rfl) (by kernel_rfl) (by kernel_rfl) (by kernel_rfl) (by kernel_rfl) (by kernel_rfl) (by kernel_rfl) ⟨by kernel_rfl, by kernel_rfl, by kernel_rfl⟩
def QX : TI := ⟨1, 8, .other, [.bt], none⟩
theorem ad8 : aP Tryz.prog 126 QX := af (by kernel_rfl) (by kernel_rfl) (by kernel_rfl) (by kernel_rfl) (by kernel_rfl) (by kernel_rfl) (by kernel_rfl) (by kernel_rfl) (by kernel_rfl) (by kernel_rfl) (by kernel_rfl) trivial
def QW : TI := ⟨1, 8, .other, [.bt], none⟩
theorem ad7 : aP Tryz.prog 127 QW := af (by kernel_rfl) (by kernel_rfl) (by kernel_rfl) (by kernel_rfl) (by kernel_rfl) (by kernel_rfl) (by kernel_rfl) (by kernel_rfl) (by kernel_rfl) (by kernel_rfl) (by kernel_rfl) trivial
def QV : TI := ⟨1, 8, .other, [.bt], none⟩
theorem ad6 : aP Tryz.prog 128 QV := af (by kernel_rfl) (by kernel_rfl) (by kernel_rfl) (by kernel_rfl) (by kernel_rfl) (by kernel_rfl) (by kernel_rfl) (by kernel_rfl) (by kernel_rfl) (by kernel_rfl) (by kernel_rfl) trivial
def QU : TI := ⟨1, 8, .other, [.bt], none⟩
theorem ad5 : aP Tryz.prog 129 QU := af (by kernel_rfl) (by kernel_rfl) (by kernel_rfl) (by kernel_rfl) (by kernel_rfl) (by kernel_rfl) (by kernel_rfl) (by kernel_rfl) (by kernel_rfl) (by kernel_rfl) (by kernel_rfl) trivial
def QT : TI := ⟨1, 8, .other, [.bt], none⟩
theorem ad4 : aP Tryz.prog 131 QT := af (by kernel_rfl) (by kernel_rfl) (by kernel_rfl) (by kernel_rfl) (by kernel_rfl) (by kernel_rfl) (by kernel_rfl) (by kernel_rfl) (by kernel_rfl) (by kernel_rfl) (by kernel_rfl) trivial
def QS : TI := ⟨1, 8, .other, [.bt], none⟩
theorem ad3 : aP Tryz.prog 132 QS := af (by kernel_rfl) (by kernel_rfl) (by kernel_rfl) (by kernel_rfl) (by kernel_rfl) (by kernel_rfl) (by kernel_rfl) (by kernel_rfl) (by kernel_rfl) (by kernel_rfl) (by kernel_rfl) trivial
def QR : TI := ⟨1, 8, .ptr [("sigil/tape.next", 191), ("sigil/tape.take", 192)], [.l7], none⟩
theorem ad2 : aP Tryz.prog 133 QR := af (by kernel_rfl) (by kernel_rfl) (by kernel_rfl) (by kernel_rfl) (by kernel_rfl) (by kernel_rfl) (by kernel_rfl) (by kernel_rfl) (by kernel_rfl) (by kernel_rfl) (by kernel_rfl) trivial
def QQ : TI := ⟨1, 24, .struct [(0, 22)], [.emp], some (.list .elem)⟩
theorem ad1 : aP Tryz.prog 134 QQ := af (by kernel_rfl) (by kernel_rfl) (by kernel_rfl) (by kernel_rfl) (by kernel_rfl) (by kernel_rfl) (by kernel_rfl) (by kernel_rfl) (by kernel_rfl) (by kernel_rfl) (by kernel_rfl) ⟨by kernel_rfl, by kernel_rfl, by kernel_rfl⟩
def QP : TI := ⟨1, 24, .struct [(0, 22)], [.emp], some (.list .elem)⟩
theorem ad0 : aP Tryz.prog 135 QP := af (by kernel_rfl) (by kernel_rfl) (by kernel_rfl) (by kernel_rfl) (by kernel_rfl) (by kernel_rfl) (by kernel_rfl) (by kernel_rfl) (by kernel_rfl) (by kernel_rfl) (by kernel_rfl) ⟨by kernel_rfl, by kernel_rfl, by kernel_rfl⟩
def QO : TI := ⟨2, 32, .struct [(0, 3), (1, 135)], [.int 0, .emp], some (.prod .int (.list .elem))⟩
theorem adZ : aP Tryz.prog 136 QO := af (by kernel_rfl) (by kernel_rfl) (by kernel_rfl) (by kernel_rfl) (by kernel_rfl) (by kernel_rfl) (by kernel_rfl) (by kernel_rfl) (by kernel_rfl) (by kernel_rfl) (by kernel_rfl) ⟨by kernel_rfl, by kernel_rfl, by kernel_rfl⟩
def QN : TI := ⟨2, 32, .struct [(0, 3), (1, 135)], [.int 0, .emp], some (.prod .int (.list .elem))⟩
theorem adY : aP Tryz.prog 137 QN := af (by kernel_rfl) (by kernel_rfl) (by kernel_rfl) (by kernel_rfl) (by kernel_rfl) (by kernel_rfl) (by kernel_rfl) (by kernel_rfl) (by kernel_rfl) (by kernel_rfl) (by kernel_rfl) ⟨by kernel_rfl, by kernel_rfl, by kernel_rfl⟩
def QM : TI := ⟨1, 8, .ptr [("Sum", 110), ("Write", 109)], [.l7], none⟩
theorem adX : aP Tryz.prog 138 QM := af (by kernel_rfl) (by kernel_rfl) (by kernel_rfl) (by kernel_rfl) (by kernel_rfl) (by kernel_rfl) (by kernel_rfl) (by kernel_rfl) (by kernel_rfl) (by kernel_rfl) (by kernel_rfl) trivial
def QL : TI := ⟨1, 8, .other, [.bt], none⟩
theorem adW : aP Tryz.prog 140 QL := af (by kernel_rfl) (by kernel_rfl) (by kernel_rfl) (by kernel_rfl) (by kernel_rfl) (by kernel_rfl) (by kernel_rfl) (by kernel_rfl) (by kernel_rfl) (by kernel_rfl) (by kernel_rfl) trivial
def QK : TI := ⟨1, 8, .ptr [("sigil/tape.next", 194), ("sigil/tape.take", 195)], [.l7], none⟩
theorem adV : aP Tryz.prog 141 QK := af (by kernel_rfl) (by kernel_rfl) (by kernel_rfl) (by kernel_rfl) (by kernel_rfl) (by kernel_rfl) (by kernel_rfl) (by kernel_rfl) (by kernel_rfl) (by kernel_rfl) (by kernel_rfl) trivial
def QJ : TI := ⟨2, 16, .struct [(0, 3), (1, 138)], [.int 0, .l7], none⟩
theorem adU : aP Tryz.prog 142 QJ := af (by kernel_rfl) (by kernel_rfl) (by kernel_rfl) (by kernel_rfl) (by kernel_rfl) (by kernel_rfl) (by kernel_rfl) (by kernel_rfl) (by kernel_rfl) (by kernel_rfl) (by kernel_rfl) trivial
def QI : TI := ⟨2, 16, .struct [(0, 3), (1, 138)], [.int 0, .l7], none⟩
theorem adT : aP Tryz.prog 143 QI := af (by kernel_rfl) (by kernel_rfl) (by kernel_rfl) (by kernel_rfl) (by kernel_rfl) (by kernel_rfl) (by kernel_rfl) (by kernel_rfl) (by kernel_rfl) (by kernel_rfl) (by kernel_rfl) trivial
def QH : TI := ⟨1, 8, .other, [.bt], none⟩
theorem adS : aP Tryz.prog 144 QH := af (by kernel_rfl) (by kernel_rfl) (by kernel_rfl) (by kernel_rfl) (by kernel_rfl) (by kernel_rfl) (by kernel_rfl) (by kernel_rfl) (by kernel_rfl) (by kernel_rfl) (by kernel_rfl) trivial
def QG : TI := ⟨1, 8, .other, [.bt], none⟩
theorem adR : aP Tryz.prog 145 QG := af (by kernel_rfl) (by kernel_rfl) (by kernel_rfl) (by kernel_rfl) (by kernel_rfl) (by kernel_rfl) (by kernel_rfl) (by kernel_rfl) (by kernel_rfl) (by kernel_rfl) (by kernel_rfl) trivial
def QF : TI := ⟨1, 8, .other, [.bt], none⟩
theorem adQ : aP Tryz.prog 146 QF := af (by kernel_rfl) (by kernel_rfl) (by kernel_rfl) (by kernel_rfl) (by kernel_rfl) (by kernel_rfl) (by kernel_rfl) (by kernel_rfl) (by kernel_rfl) (by kernel_rfl) (by kernel_rfl) trivial
def QE : TI := ⟨1, 8, .other, [.bt], none⟩
theorem adP : aP Tryz.prog 147 QE := af (by kernel_rfl) (by kernel_rfl) (by kernel_rfl) (by kernel_rfl) (by kernel_rfl) (by kernel_rfl) (by kernel_rfl) (by kernel_rfl) (by kernel_rfl) (by kernel_rfl) (by kernel_rfl) trivial
def QD : TI := ⟨8, 64, .array 8 39, [.u64 0, .u64 0, .u64 0, .u64 0, .u64 0, .u64 0, .u64 0, .u64 0], some (.arr 8 .u64)⟩
theorem adO : aP Tryz.prog 148 QD := af (by kernel_rfl) (by kernel_rfl) (by kernel_rfl) (by kernel_rfl) (by kernel_rfl) (by kernel_rfl) (by kernel_rfl) (by kernel_rfl) (by kernel_rfl) (by kernel_rfl) (by kernel_rfl) ⟨by kernel_rfl, by kernel_rfl, by kernel_rfl⟩
def QC : TI := ⟨1, 8, .other, [.bt], none⟩
theorem adN : aP Tryz.prog 149 QC := af (by kernel_rfl) (by kernel_rfl) (by kernel_rfl) (by kernel_rfl) (by kernel_rfl) (by kernel_rfl) (by kernel_rfl) (by kernel_rfl) (by kernel_rfl) (by kernel_rfl) (by kernel_rfl) trivial
def QB : TI := ⟨1, 8, .other, [.bt], none⟩
theorem adM : aP Tryz.prog 150 QB := af (by kernel_rfl) (by kernel_rfl) (by kernel_rfl) (by kernel_rfl) (by kernel_rfl) (by kernel_rfl) (by kernel_rfl) (by kernel_rfl) (by kernel_rfl) (by kernel_rfl) (by kernel_rfl) trivial
def QA : TI := ⟨1, 8, .other, [.bt], none⟩
theorem adL : aP Tryz.prog 151 QA := af (by kernel_rfl) (by kernel_rfl) (by kernel_rfl) (by kernel_rfl) (by kernel_rfl) (by kernel_rfl) (by kernel_rfl) (by kernel_rfl) (by kernel_rfl) (by kernel_rfl) (by kernel_rfl) trivial
def Qz : TI := ⟨1, 8, .other, [.bt], none⟩
theorem adK : aP Tryz.prog 152 Qz := af (by kernel_rfl) (by kernel_rfl) (by kernel_rfl) (by kernel_rfl) (by kernel_rfl) (by kernel_rfl) (by kernel_rfl) (by kernel_rfl) (by kernel_rfl) (by kernel_rfl) (by kernel_rfl) trivial
def Qy : TI := ⟨1, 8, .other, [.bt], none⟩
theorem adJ : aP Tryz.prog 153 Qy := af (by kernel_rfl) (by kernel_rfl) (by kernel_rfl) (by kernel_rfl) (by kernel_rfl) (by kernel_rfl) (by kernel_rfl) (by kernel_rfl) (by kernel_rfl) (by kernel_rfl) (by kernel_rfl) trivial
def Qx : TI := ⟨1, 8, .other, [.bt], none⟩
theorem adI : aP Tryz.prog 154 Qx := af (by kernel_rfl) (by kernel_rfl) (by kernel_rfl) (by kernel_rfl) (by kernel_rfl) (by kernel_rfl) (by kernel_rfl) (by kernel_rfl) (by kernel_rfl) (by kernel_rfl) (by kernel_rfl) trivial
def Qw : TI := ⟨1, 8, .other, [.bt], none⟩
theorem adH : aP Tryz.prog 155 Qw := af (by kernel_rfl) (by kernel_rfl) (by kernel_rfl) (by kernel_rfl) (by kernel_rfl) (by kernel_rfl) (by kernel_rfl) (by kernel_rfl) (by kernel_rfl) (by kernel_rfl) (by kernel_rfl) trivial
def Qv : TI := ⟨1, 8, .ptr [("Add", 115), ("Scale", 196), ("Value", 116)], [.l7], none⟩
theorem adG : aP Tryz.prog 156 Qv := af (by kernel_rfl) (by kernel_rfl) (by kernel_rfl) (by kernel_rfl) (by kernel_rfl) (by kernel_rfl) (by kernel_rfl) (by kernel_rfl) (by kernel_rfl) (by kernel_rfl) (by kernel_rfl) trivial
def Qu : TI := ⟨1, 8, .other, [.bt], none⟩
theorem adF : aP Tryz.prog 158 Qu := af (by kernel_rfl) (by kernel_rfl) (by kernel_rfl) (by kernel_rfl) (by kernel_rfl) (by kernel_rfl) (by kernel_rfl) (by kernel_rfl) (by kernel_rfl) (by kernel_rfl) (by kernel_rfl) trivial
def Qt : TI := ⟨1, 8, .other, [.bt], none⟩
theorem adE : aP Tryz.prog 159 Qt := af (by kernel_rfl) (by kernel_rfl) (by kernel_rfl) (by kernel_rfl) (by kernel_rfl) (by kernel_rfl) (by kernel_rfl) (by kernel_rfl) (by kernel_rfl) (by kernel_rfl) (by kernel_rfl) trivial
def Qs : TI := ⟨1, 8, .other, [.bt], none⟩
theorem adD : aP Tryz.prog 160 Qs := af (by kernel_rfl) (by kernel_rfl) (by kernel_rfl) (by kernel_rfl) (by kernel_rfl) (by kernel_rfl) (by kernel_rfl) (by kernel_rfl) (by kernel_rfl) (by kernel_rfl) (by kernel_rfl) trivial
def Qr : TI := ⟨1, 8, .other, [.bt], none⟩
theorem adC : aP Tryz.prog 161 Qr := af (by kernel_rfl) (by kernel_rfl) (by kernel_rfl) (by kernel_rfl) (by kernel_rfl) (by kernel_rfl) (by kernel_rfl) (by kernel_rfl) (by kernel_rfl) (by kernel_rfl) (by kernel_rfl) trivial
def Qq : TI := ⟨1, 8, .other, [.bt], none⟩
theorem adB : aP Tryz.prog 162 Qq := af (by kernel_rfl) (by kernel_rfl) (by kernel_rfl) (by kernel_rfl) (by kernel_rfl) (by kernel_rfl) (by kernel_rfl) (by kernel_rfl) (by kernel_rfl) (by kernel_rfl) (by kernel_rfl) trivial
def Qp : TI := ⟨11, 104, .struct [(0, 3), (1, 148), (9, 25), (10, 39)], [.int 0, .u64 0, .u64 0, .u64 0, .u64 0, .u64 0, .u64 0, .u64 0, .u64 0, .emp, .u64 0], some (.prod .int (.prod (.arr 8 .u64) (.prod (.list .u8) .u64)))⟩
theorem adA : aP Tryz.prog 163 Qp := af (by kernel_rfl) (by kernel_rfl) (by kernel_rfl) (by kernel_rfl) (by kernel_rfl) (by kernel_rfl) (by kernel_rfl) (by kernel_rfl) (by kernel_rfl) (by kernel_rfl) (by kernel_rfl) ⟨by kernel_rfl, by kernel_rfl, by kernel_rfl⟩
def Qo : TI := ⟨11, 104, .struct [(0, 3), (1, 148), (9, 25), (10, 39)], [.int 0, .u64 0, .u64 0, .u64 0, .u64 0, .u64 0, .u64 0, .u64 0, .u64 0, .emp, .u64 0], some (.prod .int (.prod (.arr 8 .u64) (.prod (.list .u8) .u64)))⟩
theorem adz : aP Tryz.prog 164 Qo := af (by kernel_rfl) (by kernel_rfl) (by kernel_rfl) (by kernel_rfl) (by kernel_rfl) (by kernel_rfl) (by kernel_rfl) (by kernel_rfl) (by kernel_rfl) (by kernel_rfl) (by kernel_rfl) ⟨by kernel_rfl, by kernel_rfl, by kernel_rfl⟩
def Qn : TI := ⟨16, 16, .array 16 5, List.replicate 16 (.u8 0), some (.arr 16 .u8)⟩
theorem ady : aP Tryz.prog 165 Qn := af (by kernel_rfl) (by kernel_rfl) (by kernel_rfl) (by kernel_rfl) (by kernel_rfl) (by kernel_rfl) (by kernel_rfl) (by kernel_rfl) (by kernel_rfl) (by kernel_rfl) (by kernel_rfl) ⟨by kernel_rfl, by kernel_rfl, by kernel_rfl⟩
def Qm : TI := ⟨1, 8, .other, [.bt], none⟩
theorem adx : aP Tryz.prog 166 Qm := af (by kernel_rfl) (by kernel_rfl) (by kernel_rfl) (by kernel_rfl) (by kernel_rfl) (by kernel_rfl) (by kernel_rfl) (by kernel_rfl) (by kernel_rfl) (by kernel_rfl) (by kernel_rfl) trivial
def Ql : TI := ⟨1, 8, .other, [.bt], none⟩
theorem adw : aP Tryz.prog 168 Ql := af (by kernel_rfl) (by kernel_rfl) (by kernel_rfl) (by kernel_rfl) (by kernel_rfl) (by kernel_rfl) (by kernel_rfl) (by kernel_rfl) (by kernel_rfl) (by kernel_rfl) (by kernel_rfl) trivial
def Qk : TI := ⟨1, 8, .other, [.bt], none⟩
theorem adv : aP Tryz.prog 170 Qk := af (by kernel_rfl) (by kernel_rfl) (by kernel_rfl) (by kernel_rfl) (by kernel_rfl) (by kernel_rfl) (by kernel_rfl) (by kernel_rfl) (by kernel_rfl) (by kernel_rfl) (by kernel_rfl) trivial
def Qj : TI := ⟨1, 8, .other, [.bt], none⟩
theorem adu : aP Tryz.prog 171 Qj := af (by kernel_rfl) (by kernel_rfl) (by kernel_rfl) (by kernel_rfl) (by kernel_rfl) (by kernel_rfl) (by kernel_rfl) (by kernel_rfl) (by kernel_rfl) (by kernel_rfl) (by kernel_rfl) trivial
def Qi : TI := ⟨1, 8, .other, [.bt], none⟩
theorem adt : aP Tryz.prog 172 Qi := af (by kernel_rfl) (by kernel_rfl) (by kernel_rfl) (by kernel_rfl) (by kernel_rfl) (by kernel_rfl) (by kernel_rfl) (by kernel_rfl) (by kernel_rfl) (by kernel_rfl) (by kernel_rfl) trivial
def Qh : TI := ⟨16, 128, .array 16 39, List.replicate 16 (.u64 0), some (.arr 16 .u64)⟩
theorem ads : aP Tryz.prog 173 Qh := af (by kernel_rfl) (by kernel_rfl) (by kernel_rfl) (by kernel_rfl) (by kernel_rfl) (by kernel_rfl) (by kernel_rfl) (by kernel_rfl) (by kernel_rfl) (by kernel_rfl) (by kernel_rfl) ⟨by kernel_rfl, by kernel_rfl, by kernel_rfl⟩
def Qg : TI := ⟨16, 128, .array 16 3, List.replicate 16 (.int 0), some (.arr 16 .int)⟩
theorem adr : aP Tryz.prog 174 Qg := af (by kernel_rfl) (by kernel_rfl) (by kernel_rfl) (by kernel_rfl) (by kernel_rfl) (by kernel_rfl) (by kernel_rfl) (by kernel_rfl) (by kernel_rfl) (by kernel_rfl) (by kernel_rfl) ⟨by kernel_rfl, by kernel_rfl, by kernel_rfl⟩
def Qf : TI := ⟨160, 1280, .array 10 174, List.replicate 160 (.int 0), some (.arr 10 (.arr 16 .int))⟩
theorem adq : aP Tryz.prog 175 Qf := af (by kernel_rfl) (by kernel_rfl) (by kernel_rfl) (by kernel_rfl) (by kernel_rfl) (by kernel_rfl) (by kernel_rfl) (by kernel_rfl) (by kernel_rfl) (by kernel_rfl) (by kernel_rfl) ⟨by kernel_rfl, by kernel_rfl, by kernel_rfl⟩
def Qe : TI := ⟨1, 8, .other, [.bt], none⟩
theorem adp : aP Tryz.prog 176 Qe := af (by kernel_rfl) (by kernel_rfl) (by kernel_rfl) (by kernel_rfl) (by kernel_rfl) (by kernel_rfl) (by kernel_rfl) (by kernel_rfl) (by kernel_rfl) (by kernel_rfl) (by kernel_rfl) trivial
def Qd : TI := ⟨1, 8, .other, [.bt], none⟩
theorem ado : aP Tryz.prog 177 Qd := af (by kernel_rfl) (by kernel_rfl) (by kernel_rfl) (by kernel_rfl) (by kernel_rfl) (by kernel_rfl) (by kernel_rfl) (by kernel_rfl) (by kernel_rfl) (by kernel_rfl) (by kernel_rfl) trivial
def Qc : TI := ⟨1, 24, .slice 3, [.emp], some (.list .int)⟩
theorem adn : aP Tryz.prog 178 Qc := af (by kernel_rfl) (by kernel_rfl) (by kernel_rfl) (by kernel_rfl) (by kernel_rfl) (by kernel_rfl) (by kernel_rfl) (by kernel_rfl) (by kernel_rfl) (by kernel_rfl) (by kernel_rfl) ⟨by kernel_rfl, by kernel_rfl, by kernel_rfl⟩
def Qb : TI := ⟨1, 8, .other, [.bt], none⟩
theorem adm : aP Tryz.prog 179 Qb := af (by kernel_rfl) (by kernel_rfl) (by kernel_rfl) (by kernel_rfl) (by kernel_rfl) (by kernel_rfl) (by kernel_rfl) (by kernel_rfl) (by kernel_rfl) (by kernel_rfl) (by kernel_rfl) trivial
def Qa : TI := ⟨1, 8, .other, [.bt], none⟩
theorem adl : aP Tryz.prog 180 Qa := af (by kernel_rfl) (by kernel_rfl) (by kernel_rfl) (by kernel_rfl) (by kernel_rfl) (by kernel_rfl) (by kernel_rfl) (by kernel_rfl) (by kernel_rfl) (by kernel_rfl) (by kernel_rfl) trivial
def P9 : TI := ⟨1, 8, .other, [.bt], none⟩
theorem adk : aP Tryz.prog 181 P9 := af (by kernel_rfl) (by kernel_rfl) (by kernel_rfl) (by kernel_rfl) (by kernel_rfl) (by kernel_rfl) (by kernel_rfl) (by kernel_rfl) (by kernel_rfl) (by kernel_rfl) (by kernel_rfl) trivial
def P8 : TI := ⟨128, 128, .array 128 5, List.replicate 128 (.u8 0), some (.arr 128 .u8)⟩
theorem adj : aP Tryz.prog 182 P8 := af (by kernel_rfl) (by kernel_rfl) (by kernel_rfl) (by kernel_rfl) (by kernel_rfl) (by kernel_rfl) (by kernel_rfl) (by kernel_rfl) (by kernel_rfl) (by kernel_rfl) (by kernel_rfl) ⟨by kernel_rfl, by kernel_rfl, by kernel_rfl⟩
def P7 : TI := ⟨8, 64, .array 2 41, [.u64 0, .u64 0, .u64 0, .u64 0, .u64 0, .u64 0, .u64 0, .u64 0], some (.arr 2 .elem)⟩
theorem adi : aP Tryz.prog 183 P7 := af (by kernel_rfl) (by kernel_rfl) (by kernel_rfl) (by kernel_rfl) (by kernel_rfl) (by kernel_rfl) (by kernel_rfl) (by kernel_rfl) (by kernel_rfl) (by kernel_rfl) (by kernel_rfl) ⟨by kernel_rfl, by kernel_rfl, by kernel_rfl⟩
def P6 : TI := ⟨1, 8, .other, [.bt], none⟩
theorem adh : aP Tryz.prog 185 P6 := af (by kernel_rfl) (by kernel_rfl) (by kernel_rfl) (by kernel_rfl) (by kernel_rfl) (by kernel_rfl) (by kernel_rfl) (by kernel_rfl) (by kernel_rfl) (by kernel_rfl) (by kernel_rfl) trivial
def P5 : TI := ⟨2, 32, .struct [(0, 3), (1, 113)], [.int 0, .emp], some (.prod .int (.list (.prod .elem (.prod .elem (.prod .elem .bool)))))⟩
theorem adg : aP Tryz.prog 186 P5 := af (by kernel_rfl) (by kernel_rfl) (by kernel_rfl) (by kernel_rfl) (by kernel_rfl) (by kernel_rfl) (by kernel_rfl) (by kernel_rfl) (by kernel_rfl) (by kernel_rfl) (by kernel_rfl) ⟨by kernel_rfl, by kernel_rfl, by kernel_rfl⟩
def P4 : TI := ⟨2, 32, .struct [(0, 3), (1, 113)], [.int 0, .emp], some (.prod .int (.list (.prod .elem (.prod .elem (.prod .elem .bool)))))⟩
theorem adf : aP Tryz.prog 187 P4 := af (by kernel_rfl) (by kernel_rfl) (by kernel_rfl) (by kernel_rfl) (by kernel_rfl) (by kernel_rfl) (by kernel_rfl) (by kernel_rfl) (by kernel_rfl) (by kernel_rfl) (by kernel_rfl) ⟨by kernel_rfl, by kernel_rfl, by kernel_rfl⟩
def P3 : TI := ⟨6, 48, .array 6 39, [.u64 0, .u64 0, .u64 0, .u64 0, .u64 0, .u64 0], some (.arr 6 .u64)⟩
theorem ade : aP Tryz.prog 188 P3 := af (by kernel_rfl) (by kernel_rfl) (by kernel_rfl) (by kernel_rfl) (by kernel_rfl) (by kernel_rfl) (by kernel_rfl) (by kernel_rfl) (by kernel_rfl) (by kernel_rfl) (by kernel_rfl) ⟨by kernel_rfl, by kernel_rfl, by kernel_rfl⟩
def P2 : TI := ⟨1, 8, .other, [.bt], none⟩
theorem adb : aP Tryz.prog 189 P2 := af (by kernel_rfl) (by kernel_rfl) (by kernel_rfl) (by kernel_rfl) (by kernel_rfl) (by kernel_rfl) (by kernel_rfl) (by kernel_rfl) (by kernel_rfl) (by kernel_rfl) (by kernel_rfl) trivial
def P1 : TI := ⟨1, 24, .slice 39, [.emp], some (.list .u64)⟩
theorem ada : aP Tryz.prog 190 P1 := af (by kernel_rfl) (by kernel_rfl) (by kernel_rfl) (by kernel_rfl) (by kernel_rfl) (by kernel_rfl) (by kernel_rfl) (by kernel_rfl) (by kernel_rfl) (by kernel_rfl) (by kernel_rfl) ⟨by kernel_rfl, by kernel_rfl, by kernel_rfl⟩
def P0 : TI := ⟨1, 16, .iface, [.c9], none⟩
theorem ac9 : aP Tryz.prog 191 P0 := af (by kernel_rfl) (by kernel_rfl) (by kernel_rfl) (by kernel_rfl) (by kernel_rfl) (by kernel_rfl) (by kernel_rfl) (by kernel_rfl) (by kernel_rfl) (by kernel_rfl) (by kernel_rfl) trivial
def PZ : TI := ⟨1, 16, .iface, [.c9], none⟩
theorem ac8 : aP Tryz.prog 192 PZ := af (by kernel_rfl) (by kernel_rfl) (by kernel_rfl) (by kernel_rfl) (by kernel_rfl) (by kernel_rfl) (by kernel_rfl) (by kernel_rfl) (by kernel_rfl) (by kernel_rfl) (by kernel_rfl) trivial
def PY : TI := ⟨1, 8, .other, [.bt], none⟩
theorem ac7 : aP Tryz.prog 193 PY := af (by kernel_rfl) (by kernel_rfl) (by kernel_rfl) (by kernel_rfl) (by kernel_rfl) (by kernel_rfl) (by kernel_rfl) (by kernel_rfl) (by kernel_rfl) (by kernel_rfl) (by kernel_rfl) trivial
def PX : TI := ⟨4, 32, .array 4 3, [.int 0, .int 0, .int 0, .int 0], some (.arr 4 .int)⟩
theorem ac6 : aP Tryz.prog 194 PX := af (by kernel_rfl) (by kernel_rfl) (by kernel_rfl) (by kernel_rfl) (by kernel_rfl) (by kernel_rfl) (by kernel_rfl) (by kernel_rfl) (by kernel_rfl) (by kernel_rfl) (by kernel_rfl) ⟨by kernel_rfl, by kernel_rfl, by kernel_rfl⟩
def PW : TI := ⟨1, 8, .other, [.bt], none⟩
theorem ac5 : aP Tryz.prog 195 PW := af (by kernel_rfl) (by kernel_rfl) (by kernel_rfl) (by kernel_rfl) (by kernel_rfl) (by kernel_rfl) (by kernel_rfl) (by kernel_rfl) (by kernel_rfl) (by kernel_rfl) (by kernel_rfl) trivial
def PV : TI := ⟨16, 128, .array 16 39, List.replicate 16 (.u64 0), some (.arr 16 .u64)⟩
theorem ac4 : aP Tryz.prog 196 PV := af (by kernel_rfl) (by kernel_rfl) (by kernel_rfl) (by kernel_rfl) (by kernel_rfl) (by kernel_rfl) (by kernel_rfl) (by kernel_rfl) (by kernel_rfl) (by kernel_rfl) (by kernel_rfl) ⟨by kernel_rfl, by kernel_rfl, by kernel_rfl⟩
def PU : TI := ⟨10, 160, .array 10 9, List.replicate 10 (.str []), some (.arr 10 .str)⟩
theorem ac3 : aP Tryz.prog 197 PU := af (by kernel_rfl) (by kernel_rfl) (by kernel_rfl) (by kernel_rfl) (by kernel_rfl) (by kernel_rfl) (by kernel_rfl) (by kernel_rfl) (by kernel_rfl) (by kernel_rfl) (by kernel_rfl) ⟨by kernel_rfl, by kernel_rfl, by kernel_rfl⟩
def PT : TI := ⟨1, 8, .other, [.bt], none⟩
theorem ac2 : aP Tryz.prog 198 PT := af (by kernel_rfl) (by kernel_rfl) (by kernel_rfl) (by kernel_rfl) (by kernel_rfl) (by kernel_rfl) (by kernel_rfl) (by kernel_rfl) (by kernel_rfl) (by kernel_rfl) (by kernel_rfl) trivial
def PS : TI := ⟨1, 8, .other, [.bt], none⟩
theorem ac1 : aP Tryz.prog 199 PS := af (by kernel_rfl) (by kernel_rfl) (by kernel_rfl) (by kernel_rfl) (by kernel_rfl) (by kernel_rfl) (by kernel_rfl) (by kernel_rfl) (by kernel_rfl) (by kernel_rfl) (by kernel_rfl) trivial
def PR : TI := ⟨1, 8, .other, [.bt], none⟩
theorem ac0 : aP Tryz.prog 200 PR := af (by kernel_rfl) (by kernel_rfl) (by kernel_rfl) (by kernel_rfl) (by kernel_rfl) (by kernel_rfl) (by kernel_rfl) (by kernel_rfl) (by kernel_rfl) (by kernel_rfl) (by kernel_rfl) trivial
def PQ : TI := ⟨1, 8, .other, [.bt], none⟩
theorem acZ : aP Tryz.prog 201 PQ := af (by kernel_rfl) (by kernel_rfl) (by kernel_rfl) (by kernel_rfl) (by kernel_rfl) (by kernel_rfl) (by kernel_rfl) (by kernel_rfl) (by kernel_rfl) (by kernel_rfl) (by kernel_rfl) trivial
def PP : TI := ⟨1, 8, .other, [.bt], none⟩
theorem acY : aP Tryz.prog 202 PP := af (by kernel_rfl) (by kernel_rfl) (by kernel_rfl) (by kernel_rfl) (by kernel_rfl) (by kernel_rfl) (by kernel_rfl) (by kernel_rfl) (by kernel_rfl) (by kernel_rfl) (by kernel_rfl) trivial
def PO : TI := ⟨1, 8, .other, [.bt], none⟩
theorem acX : aP Tryz.prog 203 PO := af (by kernel_rfl) (by kernel_rfl) (by kernel_rfl) (by kernel_rfl) (by kernel_rfl) (by kernel_rfl) (by kernel_rfl) (by kernel_rfl) (by kernel_rfl) (by kernel_rfl) (by kernel_rfl) trivial
def PN : TI := ⟨1, 8, .ptr [("sigil/blake.mix", 159)], [.l7], none⟩
theorem acW : aP Tryz.prog 204 PN := af (by kernel_rfl) (by kernel_rfl) (by kernel_rfl) (by kernel_rfl) (by kernel_rfl) (by kernel_rfl) (by kernel_rfl) (by kernel_rfl) (by kernel_rfl) (by kernel_rfl) (by kernel_rfl) trivial
def PM : TI := ⟨1, 8, .other, [.bt], none⟩
theorem acV : aP Tryz.prog 205 PM := af (by kernel_rfl) (by kernel_rfl) (by kernel_rfl) (by kernel_rfl) (by kernel_rfl) (by kernel_rfl) (by kernel_rfl) (by kernel_rfl) (by kernel_rfl) (by kernel_rfl) (by kernel_rfl) trivial
def PL : TI := ⟨1, 8, .other, [.bt], none⟩
theorem acU : aP Tryz.prog 206 PL := af (by kernel_rfl) (by kernel_rfl) (by kernel_rfl) (by kernel_rfl) (by kernel_rfl) (by kernel_rfl) (by kernel_rfl) (by kernel_rfl) (by kernel_rfl) (by kernel_rfl) (by kernel_rfl) trivial
def PK : TI := ⟨1, 8, .other, [.bt], none⟩
theorem acT : aP Tryz.prog 207 PK := af (by kernel_rfl) (by kernel_rfl) (by kernel_rfl) (by kernel_rfl) (by kernel_rfl) (by kernel_rfl) (by kernel_rfl) (by kernel_rfl) (by kernel_rfl) (by kernel_rfl) (by kernel_rfl) trivial
def PJ : TI := ⟨135, 1080, .array 15 43, (([.u64 0, .u64 0, .u64 0, .u64 0, .u64 0, .u64 0, .u64 0, .u64 0, .bool false, .u64 0, .u64 0, .u64 0, .u64 0, .u64 0, .u64 0, .u64 0, .u64 0, .bool false, .u64 0, .u64 0, .u64 0, .u64 0, .u64 0, .u64 0, .u64 0, .u64 0, .bool false, .u64 0, .u64 0, .u64 0, .u64 0, .u64 0, .u64 0, .u64 0, .u64 0, .bool false, .u64 0, .u64 0, .u64 0, .u64 0, .u64 0, .u64 0, .u64 0, .u64 0, .bool false, .u64 0, .u64 0, .u64 0, .u64 0, .u64 0] : List SV) ++ ([.u64 0, .u64 0, .u64 0, .bool false, .u64 0, .u64 0, .u64 0, .u64 0, .u64 0, .u64 0, .u64 0, .u64 0, .bool false, .u64 0, .u64 0, .u64 0, .u64 0, .u64 0, .u64 0, .u64 0, .u64 0, .bool false, .u64 0, .u64 0, .u64 0, .u64 0, .u64 0, .u64 0, .u64 0, .u64 0, .bool false, .u64 0, .u64 0, .u64 0, .u64 0, .u64 0, .u64 0, .u64 0, .u64 0, .bool false, .u64 0, .u64 0, .u64 0, .u64 0, .u64 0, .u64 0, .u64 0, .u64 0, .bool false, .u64 0] : List SV) ++ ([.u64 0, .u64 0, .u64 0, .u64 0, .u64 0, .u64 0, .u64 0, .bool false, .u64 0, .u64 0, .u64 0, .u64 0, .u64 0, .u64 0, .u64 0, .u64 0, .bool false, .u64 0, .u64 0, .u64 0, .u64 0, .u64 0, .u64 0, .u64 0, .u64 0, .bool false, .u64 0, .u64 0, .u64 0, .u64 0, .u64 0, .u64 0, .u64 0, .u64 0, .bool false] : List SV)), some (.arr 15 (.prod .elem (.prod .elem .bool)))⟩
theorem acS : aP Tryz.prog 208 PJ := af (by kernel_rfl) (by kernel_rfl) (by kernel_rfl) (by kernel_rfl) (by kernel_rfl) (by kernel_rfl) (by kernel_rfl) (by kernel_rfl) (by kernel_rfl) (by kernel_rfl) (by kernel_rfl) ⟨by kernel_rfl, by kernel_rfl, by kernel_rfl⟩
def PI : TI := ⟨1, 8, .other, [.bt], none⟩
theorem acR : aP Tryz.prog 209 PI := af (by kernel_rfl) (by kernel_rfl) (by kernel_rfl) (by kernel_rfl) (by kernel_rfl) (by kernel_rfl) (by kernel_rfl) (by kernel_rfl) (by kernel_rfl) (by kernel_rfl) (by kernel_rfl) trivial
def PH : TI := ⟨1, 8, .ptr [("Error", 197)], [.l7], none⟩
theorem acQ : aP Tryz.prog 210 PH := af (by kernel_rfl) (by kernel_rfl) (by kernel_rfl) (by kernel_rfl) (by kernel_rfl) (by kernel_rfl) (by kernel_rfl) (by kernel_rfl) (by kernel_rfl) (by kernel_rfl) (by kernel_rfl) trivial
def PG : TI := ⟨1, 8, .other, [.bt], none⟩
theorem acP : aP Tryz.prog 211 PG := af (by kernel_rfl) (by kernel_rfl) (by kernel_rfl) (by kernel_rfl) (by kernel_rfl) (by kernel_rfl) (by kernel_rfl) (by kernel_rfl) (by kernel_rfl) (by kernel_rfl) (by kernel_rfl) trivial
def PF : TI := ⟨0, 0, .array 0 16, [], none⟩
theorem acO : aP Tryz.prog 214 PF := af (by kernel_rfl) (by kernel_rfl) (by kernel_rfl) (by kernel_rfl) (by kernel_rfl) (by kernel_rfl) (by kernel_rfl) (by kernel_rfl) (by kernel_rfl) (by kernel_rfl) (by kernel_rfl) trivial
def PE : TI := ⟨1, 4, .int .u32, [.bt], none⟩
theorem acN : aP Tryz.prog 217 PE := af (by kernel_rfl) (by kernel_rfl) (by kernel_rfl) (by kernel_rfl) (by kernel_rfl) (by kernel_rfl) (by kernel_rfl) (by kernel_rfl) (by kernel_rfl) (by kernel_rfl) (by kernel_rfl) trivial
def PD : TI := ⟨1, 1, .int .u8, [.u8 0], some .u8⟩
theorem acM : aP Tryz.prog 218 PD := af (by kernel_rfl) (by kernel_rfl) (by kernel_rfl) (by kernel_rfl) (by kernel_rfl) (by kernel_rfl) (by kernel_rfl) (by kernel_rfl) (by kernel_rfl) (by kernel_rfl) (by kernel_rfl) ⟨by kernel_rfl, by kernel_rfl, by kernel_rfl⟩
def PC : TI := ⟨1, 1, .int .u8, [.u8 0], some .u8⟩
theorem acL : aP Tryz.prog 219 PC := af (by kernel_rfl) (by kernel_rfl) (by kernel_rfl) (by kernel_rfl) (by kernel_rfl) (by kernel_rfl) (by kernel_rfl) (by kernel_rfl) (by kernel_rfl) (by kernel_rfl) (by kernel_rfl) ⟨by kernel_rfl, by kernel_rfl, by kernel_rfl⟩
def PB : TI := ⟨1, 8, .other, [.bt], none⟩
theorem acK : aP Tryz.prog 220 PB := af (by kernel_rfl) (by kernel_rfl) (by kernel_rfl) (by kernel_rfl) (by kernel_rfl) (by kernel_rfl) (by kernel_rfl) (by kernel_rfl) (by kernel_rfl) (by kernel_rfl) (by kernel_rfl) trivial
def PA : TI := ⟨1, 8, .ptr [], [.l7], none⟩
theorem acJ : aP Tryz.prog 221 PA := af (by kernel_rfl) (by kernel_rfl) (by kernel_rfl) (by kernel_rfl) (by kernel_rfl) (by kernel_rfl) (by kernel_rfl) (by kernel_rfl) (by kernel_rfl) (by kernel_rfl) (by kernel_rfl) trivial
def Pz : TI := ⟨1, 4, .int .i32, [.bt], none⟩
theorem acI : aP Tryz.prog 222 Pz := af (by kernel_rfl) (by kernel_rfl) (by kernel_rfl) (by kernel_rfl) (by kernel_rfl) (by kernel_rfl) (by kernel_rfl) (by kernel_rfl) (by kernel_rfl) (by kernel_rfl) (by kernel_rfl) trivial
def Py : TI := ⟨1, 4, .int .i32, [.bt], none⟩
theorem acH : aP Tryz.prog 223 Py := af (by kernel_rfl) (by kernel_rfl) (by kernel_rfl) (by kernel_rfl) (by kernel_rfl) (by kernel_rfl) (by kernel_rfl) (by kernel_rfl) (by kernel_rfl) (by kernel_rfl) (by kernel_rfl) trivial
def Px : TI := ⟨1, 8, .ptr [("Next", 193)], [.l7], none⟩
theorem acG : aP Tryz.prog 226 Px := af (by kernel_rfl) (by kernel_rfl) (by kernel_rfl) (by kernel_rfl) (by kernel_rfl) (by kernel_rfl) (by kernel_rfl) (by kernel_rfl) (by kernel_rfl) (by kernel_rfl) (by kernel_rfl) trivial
def Pw : TI := ⟨1, 16, .struct [(0, 9)], [.str []], some .str⟩
theorem acF : aP Tryz.prog 227 Pw := af (by kernel_rfl) (by kernel_rfl) (by kernel_rfl) (by kernel_rfl) (by kernel_rfl) (by kernel_rfl) (by kernel_rfl) (by kernel_rfl) (by kernel_rfl) (by kernel_rfl) (by kernel_rfl) ⟨by kernel_rfl, by kernel_rfl, by kernel_rfl⟩
def Pv : TI := ⟨1, 16, .struct [(0, 9)], [.str []], some .str⟩
theorem acE : aP Tryz.prog 228 Pv := af (by kernel_rfl) (by kernel_rfl) (by kernel_rfl) (by kernel_rfl) (by kernel_rfl) (by kernel_rfl) (by kernel_rfl) (by kernel_rfl) (by kernel_rfl) (by kernel_rfl) (by kernel_rfl) ⟨by kernel_rfl, by kernel_rfl, by kernel_rfl⟩
def Pu : TI := ⟨1, 8, .other, [.l7], none⟩
theorem acD : aP Tryz.prog 229 Pu := af (by kernel_rfl) (by kernel_rfl) (by kernel_rfl) (by kernel_rfl) (by kernel_rfl) (by kernel_rfl) (by kernel_rfl) (by kernel_rfl) (by kernel_rfl) (by kernel_rfl) (by kernel_rfl) trivial
def te : TE := (ai 1 agH (ai 2 agG (ai 3 agF (ai 4 agE (ai 5 agD (ai 6 agC (ai 7 agB (ai 8 agA (ai 9 agz (ai 10 Yt (ai 11 Ys (ai 12 Yr (ai 15 Yq (ai 16 Yp (ai 17 Yo (ai 20 Yn (ai 21 Ym (ai 22 Yl (ai 23 Yk (ai 24 Yj (ai 25 Yi (ai 26 Yh (ai 27 Yg (ai 28 Yf (ai 29 Ye (ai 30 Yd (ai 32 Yc (ai 33 Yb (ai 34 Ya (ai 35 X9 (ai 37 X8 (ai 38 X7 (ai 39 X6 (ai 40 X5 (ai 41 X4 (ai 42 X3 (ai 43 X1 (ai 44 X0 (ai 45 XZ (ai 46 XY (ai 47 XX (ai 48 XW (ai 49 XV (ai 50 XU (ai 51 XT (ai 52 XS (ai 53 XR (ai 55 XQ (ai 57 XP (ai 59 XO (ai 61 XN (ai 62 XM (ai 63 XL (ai 64 XK (ai 65 XJ (ai 66 XI (ai 67 XH (ai 68 XG (ai 69 XF (ai 71 XE (ai 72 XD (ai 73 XC (ai 74 XB (ai 75 XA (ai 76 Xz (ai 77 Xy (ai 78 Xx (ai 79 Xw (ai 80 Xv (ai 81 Xu (ai 82 Xt (ai 83 Xs (ai 84 Xr (ai 85 Xq (ai 86 Xp (ai 87 Xo (ai 89 Xn (ai 90 Xm (ai 91 Xl (ai 92 Xk (ai 94 Xj (ai 95 Xi (ai 96 Xh (ai 97 Xg (ai 98 Xf (ai 99 Xe (ai 100 Rl (ai 101 Rk (ai 102 Rj (ai 103 Ri (ai 105 Rh (ai 106 Rg (ai 107 Rf (ai 108 Re (ai 109 Rd (ai 110 Rc (ai 111 Rb (ai 112 Ra (ai 113 Q9 (ai 114 Q8 (ai 115 Q7 (ai 116 Q6 (ai 117 Q5 (ai 119 Q4 (ai 120 Q3 (ai 121 Q2 (ai 122 Q1 (ai 123 Q0 (ai 124 QZ (ai 125 QY (ai 126 QX (ai 127 QW (ai 128 QV (ai 129 QU (ai 131 QT (ai 132 QS (ai 133 QR (ai 134 QQ (ai 135 QP (ai 136 QO (ai 137 QN (ai 138 QM (ai 140 QL (ai 141 QK (ai 142 QJ (ai 143 QI (ai 144 QH (ai 145 QG (ai 146 QF (ai 147 QE (ai 148 QD (ai 149 QC (ai 150 QB (ai 151 QA (ai 152 Qz (ai 153 Qy (ai 154 Qx (ai 155 Qw (ai 156 Qv (ai 158 Qu (ai 159 Qt (ai 160 Qs (ai 161 Qr (ai 162 Qq (ai 163 Qp (ai 164 Qo (ai 165 Qn (ai 166 Qm (ai 168 Ql (ai 170 Qk (ai 171 Qj (ai 172 Qi (ai 173 Qh (ai 174 Qg (ai 175 Qf (ai 176 Qe (ai 177 Qd (ai 178 Qc (ai 179 Qb (ai 180 Qa (ai 181 P9 (ai 182 P8 (ai 183 P7 (ai 185 P6 (ai 186 P5 (ai 187 P4 (ai 188 P3 (ai 189 P2 (ai 190 P1 (ai 191 P0 (ai 192 PZ (ai 193 PY (ai 194 PX (ai 195 PW (ai 196 PV (ai 197 PU (ai 198 PT (ai 199 PS (ai 200 PR (ai 201 PQ (ai 202 PP (ai 203 PO (ai 204 PN (ai 205 PM (ai 206 PL (ai 207 PK (ai 208 PJ (ai 209 PI (ai 210 PH (ai 211 PG (ai 214 PF (ai 217 PE (ai 218 PD (ai 219 PC (ai 220 PB (ai 221 PA (ai 222 Pz (ai 223 Py (ai 226 Px (ai 227 Pw (ai 228 Pv (ai 229 Pu ale))))))))))))))))))))))))))))))))))))))))))))))))))))))))))))))))))))))))))))))))))))))))))))))))))))))))))))))))))))))))))))))))))))))))))))))))))))))))))))))))))))))))))))))))))))))))))))))))))))))))))
theorem ar : j3 Tryz.prog te := (aa ald (aa alc (aa alb (aa ala (aa ak9 (aa ak8 (aa ak7 (aa ak6 (aa ak5 (aa aiL (aa aiK (aa aiJ (aa aiI (aa aiH (aa aiG (aa aiF (aa aiE (aa aiD (aa aiC (aa aiB (aa aiA (aa aiz (aa aiy (aa aix (aa aiw (aa aiv (aa aiu (aa ait (aa ais (aa air (aa aiq (aa aip (aa aio (aa ain (aa aim (aa ail (aa aik (aa aij (aa aii (aa aih (aa aif (aa aie (aa aid (aa aic (aa aib (aa aia (aa ah9 (aa ah8 (aa ah7 (aa ah6 (aa ah5 (aa ah4 (aa ah3 (aa ah2 (aa ah1 (aa ah0 (aa ahZ (aa ahY (aa ahX (aa ahW (aa ahV (aa ahU (aa ahT (aa ahS (aa ahR (aa ahQ (aa ahP (aa ahO (aa ahN (aa ahM (aa ahL (aa ahK (aa ahJ (aa ahI (aa ahH (aa ahG (aa ahF (aa ahE (aa ahD (aa ahC (aa ahB (aa ahA (aa ahz (aa ahy (aa ahx (aa ahw (aa aew (aa aev (aa aeu (aa aet (aa aes (aa aer (aa aeq (aa aep (aa aeo (aa aen (aa aem (aa ael (aa aek (aa aej (aa aei (aa aeh (aa aeg (aa aef (aa aee (aa aed (aa aec (aa aeb (aa aea (aa ad9 (aa ad8 (aa ad7 (aa ad6 (aa ad5 (aa ad4 (aa ad3 (aa ad2 (aa ad1 (aa ad0 (aa adZ (aa adY (aa adX (aa adW (aa adV (aa adU (aa adT (aa adS (aa adR (aa adQ (aa adP (aa adO (aa adN (aa adM (aa adL (aa adK (aa adJ (aa adI (aa adH (aa adG (aa adF (aa adE (aa adD (aa adC (aa adB (aa adA (aa adz (aa ady (aa adx (aa adw (aa adv (aa adu (aa adt (aa ads (aa adr (aa adq (aa adp (aa ado (aa adn (aa adm (aa adl (aa adk (aa adj (aa adi (aa adh (aa adg (aa adf (aa ade (aa adb (aa ada (aa ac9 (aa ac8 (aa ac7 (aa ac6 (aa ac5 (aa ac4 (aa ac3 (aa ac2 (aa ac1 (aa ac0 (aa acZ (aa acY (aa acX (aa acW (aa acV (aa acU (aa acT (aa acS (aa acR (aa acQ (aa acP (aa acO (aa acN (aa acM (aa acL (aa acK (aa acJ (aa acI (aa acH (aa acG (aa acF (aa acE (aa acD aex))))))))))))))))))))))))))))))))))))))))))))))))))))))))))))))))))))))))))))))))))))))))))))))))))))))))))))))))))))))))))))))))))))))))))))))))))))))))))))))))))))))))))))))))))))))))))))))))))))))))))
theorem follows : Tryz.prog.follows .mixedOrders = true := by kernel_rfl
def E0 : Env := abp
theorem amD : aQ Tryz.prog E0 := abo
theorem akG : av E0 := Of
end Go.Proofs.YtohjofabochgfaaGreat

namespace Go.Proofs.YtohjofabochgfaaGreat
open Sx Go
def Sx.ab.nat (e : ab) : Nat := e.w0.toNat + 18446744073709551616 * (e.w1.toNat + 18446744073709551616 * (e.w2.toNat + 18446744073709551616 * e.w3.toNat))
def ofN (n : Nat) : ab := ⟨UInt64.ofNat n, UInt64.ofNat (n / 18446744073709551616), UInt64.ofNat (n / 18446744073709551616 / 18446744073709551616), UInt64.ofNat (n / 18446744073709551616 / 18446744073709551616 / 18446744073709551616)⟩
def pj (x y c : UInt64) : UInt64 := UInt64.ofNat ((x.toNat + y.toNat + c.toNat) % 18446744073709551616)
def rj (x y c : UInt64) : UInt64 := UInt64.ofNat ((x.toNat + y.toNat + c.toNat) / 18446744073709551616)
def la (x y c : UInt64) : UInt64 := UInt64.ofNat ((x.toNat + 18446744073709551616 - y.toNat - c.toNat) % 18446744073709551616)
def HI (x y c : UInt64) : UInt64 := UInt64.ofNat (if x.toNat < y.toNat + c.toNat then 1 else 0)
def acw (x y : UInt64) : UInt64 := UInt64.ofNat (x.toNat * y.toNat / 18446744073709551616)
theorem eX (x : UInt64) (k : Nat) (hk : k < 64) : (bl x (k : Int)).toNat = x.toNat / 2 ^ k := by
  unfold bl
  rw [if_pos (by omega), UInt64.toNat_shiftRight, UInt64.toNat_ofNat', Int.toNat_natCast, Nat.shiftRight_eq_div_pow]
  congr 2
  omega
theorem j9 (x : UInt64) (k : Nat) (hk : k < 64) : (cj x (k : Int)).toNat = x.toNat * 2 ^ k % 2 ^ 64 := by
  unfold cj
  rw [if_pos (by omega), UInt64.toNat_shiftLeft, UInt64.toNat_ofNat', Int.toNat_natCast, Nat.shiftLeft_eq]
  congr 3
  omega
theorem ga (x : UInt64) : (x &&& 4294967295).toNat = x.toNat % 4294967296 := by
  rw [UInt64.toNat_and]
  exact Nat.and_two_pow_sub_one_eq_mod x.toNat 32
theorem alu (a b : UInt64) : bl a 32 * bl b 32 + bl (bl a 32 * (b &&& 4294967295) + bl ((a &&& 4294967295) * (b &&& 4294967295)) 32) 32 +
    bl (((bl a 32 * (b &&& 4294967295) + bl ((a &&& 4294967295) * (b &&& 4294967295)) 32) &&& 4294967295) + (a &&& 4294967295) * bl b 32) 32 = acw a b := by
  have ha := a.toNat_lt
  have hb := b.toNat_lt
  obtain ⟨h1, h2, h3, h4⟩ := Lib.mul64_hi a.toNat b.toNat ha hb
  have s32 : ∀ x : UInt64, (bl x 32).toNat = x.toNat / 4294967296 := fun x => eX x 32 (by omega)
  have hx := Lib.half_mul_le (a := a.toNat / 4294967296) (b := b.toNat / 4294967296) (by omega) (by omega)
  have hy := Lib.half_mul_le (a := a.toNat / 4294967296) (b := b.toNat % 4294967296) (by omega) (by omega)
  have hz := Lib.half_mul_le (a := a.toNat % 4294967296) (b := b.toNat / 4294967296) (by omega) (by omega)
  have e0 : ((a &&& 4294967295) * (b &&& 4294967295)).toNat = a.toNat % 4294967296 * (b.toNat % 4294967296) := by
    rw [UInt64.toNat_mul, ga, ga, Nat.mod_eq_of_lt h1]
  have e1 : (bl a 32 * (b &&& 4294967295) + bl ((a &&& 4294967295) * (b &&& 4294967295)) 32).toNat = a.toNat / 4294967296 * (b.toNat % 4294967296) + a.toNat % 4294967296 * (b.toNat % 4294967296) / 4294967296 := by
    rw [UInt64.toNat_add, UInt64.toNat_mul, s32, s32, ga, e0, Nat.mod_eq_of_lt (a := a.toNat / 4294967296 * (b.toNat % 4294967296)) (by omega), Nat.mod_eq_of_lt h2]
  have e2 : (((bl a 32 * (b &&& 4294967295) + bl ((a &&& 4294967295) * (b &&& 4294967295)) 32) &&& 4294967295) + (a &&& 4294967295) * bl b 32).toNat =
      (a.toNat / 4294967296 * (b.toNat % 4294967296) + a.toNat % 4294967296 * (b.toNat % 4294967296) / 4294967296) % 4294967296 + a.toNat % 4294967296 * (b.toNat / 4294967296) := by
    rw [UInt64.toNat_add, UInt64.toNat_mul, ga, ga, s32, e1, Nat.mod_eq_of_lt (a := a.toNat % 4294967296 * (b.toNat / 4294967296)) (by omega), Nat.mod_eq_of_lt h3]
  have hq : a.toNat * b.toNat / 18446744073709551616 < 18446744073709551616 := by
    rw [Nat.div_lt_iff_lt_mul (by omega)]
    exact Nat.mul_lt_mul'' ha hb
  rw [← UInt64.toNat_inj, UInt64.toNat_add, UInt64.toNat_add, UInt64.toNat_mul, s32, s32, s32, s32, e1, e2]
  have e3 : (acw a b).toNat = a.toNat * b.toNat / 18446744073709551616 := by
    unfold acw
    rw [UInt64.toNat_ofNat', Nat.mod_eq_of_lt hq]
  rw [e3, ← h4]
  rw [← h4] at hq
  omega
def akR (h l y : UInt64) : UInt64 := UInt64.ofNat ((h.toNat * 18446744073709551616 + l.toNat) / y.toNat)
def Kr (h l y : UInt64) : UInt64 := UInt64.ofNat ((h.toNat * 18446744073709551616 + l.toNat) % y.toNat)
theorem af8 {m A B N : Nat} (hm : 0 < m) (e : N = A + m * B) : N / m = B + A / m ∧ N % m = A % m := by
  subst e
  exact ⟨by rw [Nat.add_mul_div_left _ _ hm, Nat.add_comm], Nat.add_mul_mod_self_left ..⟩
theorem GR {m N u t q r K L : Nat} (hm : 0 < m) (hL : 0 < L) (hu : N = u * K + t) (hq : u = q * (m * L) + r) :
    N / m = q * (L * K) + ((r * K + t) * L) / (m * L) ∧ N % m = ((r * K + t) * L) % (m * L) / L := by
  have e : N = (r * K + t) + m * (q * (L * K)) := by
    have h1 : q * (m * L) * K = m * (q * (L * K)) := by
      rw [Nat.mul_assoc q, Nat.mul_assoc m, Nat.mul_left_comm m q]
    rw [hu, hq, Nat.add_mul, h1]
    omega
  obtain ⟨h1, h2⟩ := af8 hm e
  rw [h1, h2, Nat.mul_div_mul_right _ _ hL, Nat.mul_mod_mul_right, Nat.mul_div_cancel _ hL]
  exact ⟨rfl, rfl⟩
theorem jo (x y c : UInt64) : x.toNat + y.toNat + c.toNat = (pj x y c).toNat + 18446744073709551616 * (rj x y c).toNat := by
  have hx := x.toNat_lt
  have hy := y.toNat_lt
  have hc := c.toNat_lt
  unfold pj rj
  rw [UInt64.toNat_ofNat', UInt64.toNat_ofNat', Nat.mod_eq_of_lt (b := 2 ^ 64) (by omega), Nat.mod_eq_of_lt (b := 2 ^ 64) (by omega)]
  omega
theorem vO {x y c : UInt64} (hc : c.toNat ≤ 1) : (rj x y c).toNat ≤ 1 := by
  have hx := x.toNat_lt
  have hy := y.toNat_lt
  unfold rj
  rw [UInt64.toNat_ofNat', Nat.mod_eq_of_lt (by omega)]
  omega
theorem ru (x y c : UInt64) : (HI x y c).toNat = if x.toNat < y.toNat + c.toNat then 1 else 0 := by
  unfold HI
  rw [UInt64.toNat_ofNat']
  split <;> rfl
theorem ud {x y c : UInt64} : (HI x y c).toNat ≤ 1 := by
  rw [ru]
  split <;> omega
theorem rv {x y c : UInt64} (hc : c.toNat ≤ 1) : x.toNat + 18446744073709551616 * (HI x y c).toNat = (la x y c).toNat + y.toNat + c.toNat := by
  have hx := x.toNat_lt
  have hy := y.toNat_lt
  rw [ru]
  unfold la
  rw [UInt64.toNat_ofNat', Nat.mod_eq_of_lt (b := 2 ^ 64) (by omega)]
  split <;> omega
theorem iP (e : ab) : e.nat < 115792089237316195423570985008687907853269984665640564039457584007913129639936 := by
  have h0 := e.w0.toNat_lt
  have h1 := e.w1.toNat_lt
  have h2 := e.w2.toNat_lt
  have h3 := e.w3.toNat_lt
  unfold Sx.ab.nat
  omega
theorem ua {a b X Y : Nat} (ha : a < 18446744073709551616) (hb : b < 18446744073709551616) (h : a + 18446744073709551616 * X = b + 18446744073709551616 * Y) : a = b ∧ X = Y := by
  omega
theorem zF {e f : ab} (h : e.nat = f.nat) : e = f := by
  unfold Sx.ab.nat at h
  obtain ⟨h0, h⟩ := ua e.w0.toNat_lt f.w0.toNat_lt h
  obtain ⟨h1, h⟩ := ua e.w1.toNat_lt f.w1.toNat_lt h
  obtain ⟨h2, h3⟩ := ua e.w2.toNat_lt f.w2.toNat_lt h
  obtain ⟨a, b, c, d⟩ := e
  obtain ⟨a', b', c', d'⟩ := f
  simp only at h0 h1 h2 h3
  rw [UInt64.toNat_inj.1 h0, UInt64.toNat_inj.1 h1, UInt64.toNat_inj.1 h2, UInt64.toNat_inj.1 h3]
theorem div_eq {n a b : Nat} (ha : a < 18446744073709551616) (h : n = a + 18446744073709551616 * b) : n / 18446744073709551616 = b ∧ n % 18446744073709551616 = a := by
  omega
theorem ZY {n : Nat} {a b c d : UInt64} {k : Nat} (h : n = a.toNat + 18446744073709551616 * (b.toNat + 18446744073709551616 * (c.toNat + 18446744073709551616 * (d.toNat + 18446744073709551616 * k)))) : ofN n = ⟨a, b, c, d⟩ := by
  obtain ⟨h1, h0⟩ := div_eq a.toNat_lt h
  obtain ⟨h2, h3⟩ := div_eq b.toNat_lt h1
  obtain ⟨h4, h5⟩ := div_eq c.toNat_lt h2
  have h6 : n / 18446744073709551616 / 18446744073709551616 / 18446744073709551616 % 18446744073709551616 = d.toNat := by
    rw [h4]
    have := d.toNat_lt
    omega
  unfold ofN
  have e : ∀ (m : Nat) (x : UInt64), m % 18446744073709551616 = x.toNat → UInt64.ofNat m = x := fun m x hm => by
    rw [← UInt64.toNat_inj, UInt64.toNat_ofNat']
    exact hm
  rw [e _ a h0, e _ b h3, e _ c h5, e _ d h6]
theorem Nd (n : Nat) : (ofN n).nat = n % 115792089237316195423570985008687907853269984665640564039457584007913129639936 := by
  unfold ofN ab.nat
  simp only [UInt64.toNat_ofNat']
  rw [show (2 : Nat) ^ 64 = 18446744073709551616 from rfl]
  omega
theorem iO {n : Nat} (h : n < 115792089237316195423570985008687907853269984665640564039457584007913129639936) : (ofN n).nat = n := by
  rw [Nd]
  exact Nat.mod_eq_of_lt h
theorem oC (e : ab) : ofN e.nat = e := zF (iO (iP e))
def rk (a b : ab) : ab × Bool := (ofN (a.nat + b.nat), Nat.ble 115792089237316195423570985008687907853269984665640564039457584007913129639936 (a.nat + b.nat))
def jV (a b : ab) : ab × Bool := (ofN (a.nat + 115792089237316195423570985008687907853269984665640564039457584007913129639936 - b.nat), Nat.blt a.nat b.nat)
theorem Hj {x y c s k X Y R : Nat} (h1 : x + y + c = s + 18446744073709551616 * k) (h2 : X + Y + k = R) : (x + 18446744073709551616 * X) + (y + 18446744073709551616 * Y) + c = s + 18446744073709551616 * R := by
  omega
theorem Fg {x y c s k X Y R Q : Nat} (h1 : x + 18446744073709551616 * k = s + y + c) (h2 : X + 18446744073709551616 * Q = R + Y + k) : (x + 18446744073709551616 * X) + 18446744073709551616 * (18446744073709551616 * Q) = s + 18446744073709551616 * R + (y + 18446744073709551616 * Y) + c := by
  omega
theorem C0 (a b : ab) : let k0 := rj a.w0 b.w0 0; let k1 := rj a.w1 b.w1 k0; let k2 := rj a.w2 b.w2 k1; let k3 := rj a.w3 b.w3 k2
    (k0.toNat ≤ 1 ∧ k1.toNat ≤ 1 ∧ k2.toNat ≤ 1) ∧ rk a b = (⟨pj a.w0 b.w0 0, pj a.w1 b.w1 k0, pj a.w2 b.w2 k1, pj a.w3 b.w3 k2⟩, !(k3 == 0)) := by
  intro k0 k1 k2 k3
  have l0 : k0.toNat ≤ 1 := vO (by decide)
  have l1 : k1.toNat ≤ 1 := vO l0
  have l2 : k2.toNat ≤ 1 := vO l1
  have l3 : k3.toNat ≤ 1 := vO l2
  refine ⟨⟨l0, l1, l2⟩, ?_⟩
  have h := Hj (jo a.w0 b.w0 0) (Hj (jo a.w1 b.w1 k0) (Hj (jo a.w2 b.w2 k1) (jo a.w3 b.w3 k2)))
  rw [show (0 : UInt64).toNat = 0 from rfl, Nat.add_zero] at h
  unfold rk
  have hn : a.nat + b.nat = (pj a.w0 b.w0 0).toNat + 18446744073709551616 * ((pj a.w1 b.w1 k0).toNat + 18446744073709551616 * ((pj a.w2 b.w2 k1).toNat + 18446744073709551616 * ((pj a.w3 b.w3 k2).toNat + 18446744073709551616 * k3.toNat))) := h
  rw [ZY hn]
  congr 1
  have hs := iP ⟨pj a.w0 b.w0 0, pj a.w1 b.w1 k0, pj a.w2 b.w2 k1, pj a.w3 b.w3 k2⟩
  unfold Sx.ab.nat at hs
  simp only at hs
  have hk : k3.toNat = 0 ∨ k3.toNat = 1 := by omega
  rcases hk with hk | hk
  · have e : k3 = 0 := UInt64.toNat_inj.1 hk
    rw [hk] at hn
    rw [e]
    cases hb : Nat.ble 115792089237316195423570985008687907853269984665640564039457584007913129639936 (a.nat + b.nat)
    · rfl
    · have := Nat.le_of_ble_eq_true hb
      omega
  · have e : (k3 == 0) = false := by
      have : ¬ k3 = 0 := fun e => by rw [e] at hk; cases hk
      simpa using this
    rw [hk] at hn
    rw [e]
    exact Nat.ble_eq_true_of_le (by omega)
theorem C2 (a b : ab) : let k0 := HI a.w0 b.w0 0; let k1 := HI a.w1 b.w1 k0; let k2 := HI a.w2 b.w2 k1; let k3 := HI a.w3 b.w3 k2
    (k0.toNat ≤ 1 ∧ k1.toNat ≤ 1 ∧ k2.toNat ≤ 1) ∧ jV a b = (⟨la a.w0 b.w0 0, la a.w1 b.w1 k0, la a.w2 b.w2 k1, la a.w3 b.w3 k2⟩, !(k3 == 0)) := by
  intro k0 k1 k2 k3
  have l0 : k0.toNat ≤ 1 := ud
  have l1 : k1.toNat ≤ 1 := ud
  have l2 : k2.toNat ≤ 1 := ud
  have l3 : k3.toNat ≤ 1 := ud
  refine ⟨⟨l0, l1, l2⟩, ?_⟩
  have h := Fg (rv (x := a.w0) (y := b.w0) (c := 0) (by decide)) (Fg (rv (x := a.w1) (y := b.w1) l0) (Fg (rv (x := a.w2) (y := b.w2) l1) (rv (x := a.w3) (y := b.w3) l2)))
  rw [show (0 : UInt64).toNat = 0 from rfl, Nat.add_zero] at h
  unfold jV
  have hs := iP ⟨la a.w0 b.w0 0, la a.w1 b.w1 k0, la a.w2 b.w2 k1, la a.w3 b.w3 k2⟩
  have h' : a.nat + 18446744073709551616 * (18446744073709551616 * (18446744073709551616 * (18446744073709551616 * k3.toNat))) = ab.nat ⟨la a.w0 b.w0 0, la a.w1 b.w1 k0, la a.w2 b.w2 k1, la a.w3 b.w3 k2⟩ + b.nat := h
  have ha := iP a
  have hb := iP b
  have hS := iP ⟨la a.w0 b.w0 0, la a.w1 b.w1 k0, la a.w2 b.w2 k1, la a.w3 b.w3 k2⟩
  have e1 : ofN (a.nat + 115792089237316195423570985008687907853269984665640564039457584007913129639936 - b.nat) = ⟨la a.w0 b.w0 0, la a.w1 b.w1 k0, la a.w2 b.w2 k1, la a.w3 b.w3 k2⟩ := by
    apply zF
    rw [Nd]
    generalize ab.nat ⟨la a.w0 b.w0 0, la a.w1 b.w1 k0, la a.w2 b.w2 k1, la a.w3 b.w3 k2⟩ = S at *
    omega
  rw [e1]
  congr 1
  generalize ab.nat ⟨la a.w0 b.w0 0, la a.w1 b.w1 k0, la a.w2 b.w2 k1, la a.w3 b.w3 k2⟩ = S at *
  have hk : k3.toNat = 0 ∨ k3.toNat = 1 := by omega
  rcases hk with hk | hk
  · have e : k3 = 0 := UInt64.toNat_inj.1 hk
    rw [hk] at h'
    rw [e]
    cases hq : Nat.blt a.nat b.nat
    · rfl
    · have := da hq
      omega
  · have e : (k3 == 0) = false := by
      have : ¬ k3 = 0 := fun e => by rw [e] at hk; cases hk
      simpa using this
    rw [hk] at h'
    rw [e]
    exact Nat.ble_eq_true_of_le (show a.nat + 1 ≤ b.nat by omega)
def lst (e : ab) : List UInt64 := [e.w0, e.w1, e.w2, e.w3]
def elemOf (l : List UInt64) : ab := ⟨l.getD 0 0, l.getD 1 0, l.getD 2 0, l.getD 3 0⟩
theorem aZ {l : List UInt64} (h : l.length = 4) : lst (elemOf l) = l := by
  match l, h with
  | [a, b, c, d], _ => rfl
theorem V6 (e : ab) : elemOf (lst e) = e := rfl
theorem cB (e : ab) : (lst e).length = 4 := rfl
theorem lL {h l y : UInt64} (hy : 0 < y.toNat) : (Kr h l y).toNat = (h.toNat * 18446744073709551616 + l.toNat) % y.toNat := by
  unfold Kr
  rw [UInt64.toNat_ofNat']
  exact Nat.mod_eq_of_lt (Nat.lt_trans (Nat.mod_lt _ hy) y.toNat_lt)
theorem Ge (r x m : Nat) : (r % m * 18446744073709551616 + x) % m = (r * 18446744073709551616 + x) % m := by
  rw [Nat.add_mod, Nat.mul_mod, Nat.mod_mod, ← Nat.mul_mod, ← Nat.add_mod]
theorem k8 {a b : ab} (h : b.nat ≤ a.nat) : (jV a b).1.nat = a.nat - b.nat := by
  have ha := iP a
  show (ofN _).nat = _
  rw [Nd]
  omega
theorem OI {w N r : Nat} (hr : r < 64) : (w + 18446744073709551616 * N) / 2 ^ r % 2 = w / 2 ^ r % 2 := by
  have e : 18446744073709551616 * N = 2 ^ r * (2 * (2 ^ (63 - r) * N)) := by
    rw [← Nat.mul_assoc, ← Nat.mul_assoc, Nat.mul_comm (2 ^ r) 2, Nat.mul_assoc 2, ← Nat.pow_add, show r + (63 - r) = 63 by omega]
  rw [e, Nat.add_mul_div_left _ _ (Nat.two_pow_pos r), Nat.add_mul_mod_self_left]
theorem tZ {w N : Nat} (hw : w < 18446744073709551616) (r : Nat) : (w + 18446744073709551616 * N) / 2 ^ (64 + r) = N / 2 ^ r := by
  rw [Nat.pow_add, ← Nat.div_div_eq_div_mul, show 2 ^ 64 = 18446744073709551616 from rfl, show (w + 18446744073709551616 * N) / 18446744073709551616 = N by omega]
theorem TK {a : ab} {q r : Nat} (hq : q < 4) (hr : r < 64) : ((lst a).getD q 0).toNat / 2 ^ r % 2 = a.nat / 2 ^ (64 * q + r) % 2 := by
  have h0 := a.w0.toNat_lt
  have h1 := a.w1.toNat_lt
  have h2 := a.w2.toNat_lt
  unfold Sx.ab.nat
  have hq' : q = 0 ∨ q = 1 ∨ q = 2 ∨ q = 3 := by omega
  rcases hq' with rfl | rfl | rfl | rfl
  · rw [Nat.mul_zero, Nat.zero_add, OI hr]; rfl
  · rw [show 64 * 1 + r = 64 + r by omega, tZ h0, OI hr]; rfl
  · rw [show 64 * 2 + r = 64 + (64 + r) by omega, tZ h0, tZ h1, OI hr]; rfl
  · rw [show 64 * 3 + r = 64 + (64 + (64 + r)) by omega, tZ h0, tZ h1, tZ h2]; rfl
def EL (n i : Nat) : Bool := Nat.beq (n / 2 ^ i % 2) 1
theorem OH (x : UInt64) : (x &&& 1 == 1) = Nat.beq (x.toNat % 2) 1 := by
  have e : (x &&& 1).toNat = x.toNat % 2 := by
    rw [UInt64.toNat_and]
    exact Nat.and_two_pow_sub_one_eq_mod x.toNat 1
  rw [← e]
  by_cases h : x &&& 1 = 1
  · rw [h]; rfl
  · have h' : ¬ (x &&& 1).toNat = 1 := fun h' => h (UInt64.toNat_inj.1 h')
    have h2 : Nat.beq (x &&& 1).toNat 1 = false := by
      cases hb : Nat.beq (x &&& 1).toNat 1
      · rfl
      · exact absurd (Nat.eq_of_beq_eq_true hb) h'
    rw [h2]
    simpa using h
abbrev xG : Ty := .prod .elem (.prod .elem (.prod .elem .bool))
end Go.Proofs.YtohjofabochgfaaGreat

namespace Go.Proofs.YtohjofabochgfaaGreat
open Sx Go
set_option maxRecDepth 100000
def Hh : ao := ⟨[.val false .u64, .val false .u64, .val false .u64], [], true, 0, false⟩
abbrev acf : Type := ((UInt64) × (UInt64) × (UInt64) × Unit) × (Unit)
def ace : aw := ⟨[.val false .u64, .val false .u64], [], false⟩
def vM (x : acf) : Bool := decide (x.1.2.2.1.toNat ≤ 1)
def TN (x : acf) : OT Hh.Y := .ok ⟨ace, ((pj x.1.1 x.1.2.1 x.1.2.2.1, rj x.1.1 x.1.2.1 x.1.2.2.1, ()), ())⟩
theorem Wx (a b c : UInt64) (hc : c.toNat ≤ 1) (w : World) : (callFunc 151 #[eU a, eU b, eU c]).run Tryz.prog w = .ok (.value (.tuple #[eU (pj a b c), eU (rj a b c)])) w := by
  unfold eU
  rw [run_callFunc_extern Tryz.func151 (by kernel_rfl) (by kernel_rfl) (by kernel_rfl) (e := add64Entry) (by kernel_rfl), run_add64 (a.toNat : Int) (b.toNat : Int) (c.toNat : Int) (by omega) (by omega) (by omega) (by omega)]
  have ha := a.toNat_lt
  have hb := b.toNat_lt
  have e1 : (((pj a b c).toNat : Nat) : Int) = ((a.toNat : Int) + b.toNat + c.toNat) % 18446744073709551616 := by
    unfold pj
    rw [UInt64.toNat_ofNat', Nat.mod_eq_of_lt (by omega)]
    omega
  have e2 : (((rj a b c).toNat : Nat) : Int) = ((a.toNat : Int) + b.toNat + c.toNat) / 18446744073709551616 := by
    unfold rj
    rw [UInt64.toNat_ofNat', Nat.mod_eq_of_lt (by omega)]
    omega
  rw [e1, e2]
  rfl
theorem acd : ac Tryz.prog 151 (Hh.aD vM TN) := by
  refine ag4 (k := 0) (by kernel_rfl) fun x oy vs N w hp ho hr => ?_
  obtain ⟨⟨a, b, c, ⟨⟩⟩, ⟨⟩⟩ := x
  cases ho
  have hc : c.toNat ≤ 1 := of_decide_eq_true hp
  have hr' : SV.bH N [.u64 a, .u64 b, .u64 c] vs := hr
  simp only [SV.bH, SV.rel] at hr'
  obtain ⟨_, _, rfl, rfl, _, _, rfl, rfl, _, _, rfl, rfl, rfl⟩ := hr'
  refine ⟨.tup [.u64 (pj a b c), .u64 (rj a b c)], _, Wx a b c hc w, ?_, ⟨rfl, by kernel_rfl⟩⟩
  simp only [SV.rel]
  exact ⟨_, rfl, by simp only [SV.bH, SV.rel]; exact ⟨_, _, rfl, rfl, _, _, rfl, rfl, rfl⟩⟩
def qL : cv := (Hh.aD vM TN)
theorem K7 : ac Tryz.prog 151 qL := acd
theorem K6 : aF qL := az
def HG : Env := ay 151 qL E0
theorem Pf : aQ Tryz.prog HG := ah K7 amD
theorem HF : av HG := ae K6 akG
def G8 : ao := ⟨[.val false .u64, .val false .u64, .val false .u64], [], true, 0, false⟩
abbrev ab0 : Type := ((UInt64) × (UInt64) × (UInt64) × Unit) × (Unit)
def abZ : aw := ⟨[.val false .u64, .val false .u64], [], false⟩
def vF (x : ab0) : Bool := decide (x.1.2.2.1.toNat ≤ 1)
def TF (x : ab0) : OT G8.Y := .ok ⟨abZ, ((la x.1.1 x.1.2.1 x.1.2.2.1, HI x.1.1 x.1.2.1 x.1.2.2.1, ()), ())⟩
def agI : Array Value → Sem Value := fun args => do
  let (x, y, b) ← Extern.MathBitsCarry.three "Sub64" args
  pure (Extern.MathBitsCarry.pair ((x + Extern.MathBitsCarry.m64 - y - b) % Extern.MathBitsCarry.m64) (if x < y + b then 1 else 0))
theorem Ub {P : Program} (x y b : Nat) (hb : b ≤ 1) (w : World) :
    (agI #[.int .u64 x, .int .u64 y, .int .u64 b]).run P w =
      .ok (.tuple #[.int .u64 (((x + 18446744073709551616 - y - b) % 18446744073709551616 : Nat) : Int), .int .u64 ((if x < y + b then 1 else 0 : Nat) : Int)]) w := by
  have : b = 0 ∨ b = 1 := by omega
  rcases this with rfl | rfl <;> rfl
theorem Wv (a b c : UInt64) (hc : c.toNat ≤ 1) (w : World) : (callFunc 153 #[eU a, eU b, eU c]).run Tryz.prog w = .ok (.value (.tuple #[eU (la a b c), eU (HI a b c)])) w := by
  unfold eU
  rw [run_callFunc_extern Tryz.func153 (by kernel_rfl) (by kernel_rfl) (by kernel_rfl) (e := agI) (by kernel_rfl), Ub a.toNat b.toNat c.toNat (by omega)]
  have ha := a.toNat_lt
  have hb := b.toNat_lt
  have e1 : (la a b c).toNat = (a.toNat + 18446744073709551616 - b.toNat - c.toNat) % 18446744073709551616 := by
    unfold la
    rw [UInt64.toNat_ofNat', Nat.mod_eq_of_lt (by omega)]
  have e2 : (HI a b c).toNat = if a.toNat < b.toNat + c.toNat then 1 else 0 := by
    unfold HI
    rw [UInt64.toNat_ofNat', Nat.mod_eq_of_lt (by split <;> omega)]
  rw [e1, e2]
  rfl
theorem abY : ac Tryz.prog 153 (G8.aD vF TF) := by
  refine ag4 (k := 0) (by kernel_rfl) fun x oy vs N w hp ho hr => ?_
  obtain ⟨⟨a, b, c, ⟨⟩⟩, ⟨⟩⟩ := x
  cases ho
  have hc : c.toNat ≤ 1 := of_decide_eq_true hp
  have hr' : SV.bH N [.u64 a, .u64 b, .u64 c] vs := hr
  simp only [SV.bH, SV.rel] at hr'
  obtain ⟨_, _, rfl, rfl, _, _, rfl, rfl, _, _, rfl, rfl, rfl⟩ := hr'
  refine ⟨.tup [.u64 (la a b c), .u64 (HI a b c)], _, Wv a b c hc w, ?_, ⟨rfl, by kernel_rfl⟩⟩
  simp only [SV.rel]
  exact ⟨_, rfl, by simp only [SV.bH, SV.rel]; exact ⟨_, _, rfl, rfl, _, _, rfl, rfl, rfl⟩⟩
def qH : cv := (G8.aD vF TF)
theorem KL : ac Tryz.prog 153 qH := abY
theorem KK : aF qH := az
def tR : Env := ay 153 qH HG
theorem rc : aQ Tryz.prog tR := ah KL Pf
theorem tQ : av tR := ae KK HF
theorem LB : aV Tryz.prog te tR := aJ follows ar rc tQ
def fH : ao := ⟨[.val false .u64, .val false .u64], [], true, 0, false⟩
abbrev vH : Type := ((UInt64) × (UInt64) × Unit) × (Unit)
def Bq : aw := ⟨[.val false .u64, .val false .u64], [], false⟩
def EH : SV → Option aw := fun _ => some Bq
def yp (a0 : UInt64) (a1 : UInt64) : OT fH.Y :=
  let z0 : UInt64 := bl a0 (32 : Int)
  let z1 : UInt64 := bl a1 (32 : Int)
  let z2 : UInt64 := z0 * (a1 &&& (4294967295 : UInt64)) + bl ((a0 &&& (4294967295 : UInt64)) * (a1 &&& (4294967295 : UInt64))) (32 : Int)
  (.ok ⟨Bq, ((z0 * z1 + bl z2 (32 : Int) + bl ((z2 &&& (4294967295 : UInt64)) + (a0 &&& (4294967295 : UInt64)) * z1) (32 : Int), (a0 * a1, ())), ())⟩)
theorem agn (x : vH) (Q : fH.Y → Prop) : wpf te tR ax 1000 Tryz.f165 (fH.inp.inj x).tm (fH.inp.inj x).hp (fnK fH EH Q) (fun _ _ => False) = (yp (x.1.1) (x.1.2.1)).wpR Q := by kernel_rfl
theorem OB (pre : vH → Bool) (F : vH → OT fH.Y) (hF : ∀ (x : vH) oy, pre x = true → (F x).run = some oy → (yp (x.1.1) (x.1.2.1)).run = some oy) : ac Tryz.prog 165 (fH.aD pre F) :=
  aB ar rc LB (f := 165) (fn := Tryz.f165) (c := al Tryz.f165) (by kernel_rfl) (by kernel_rfl) (by kernel_rfl) (S := fH) (k := 0) (by kernel_rfl) (fun R hR => ag) (n := 1000) (sel := EH) (fun v o h => by cases h; rfl) (pre := pre) (F := F) (T := fun x => yp (x.1.1) (x.1.2.1)) (fun x Q => agn x Q) hF
def EI (_ : vH) : Bool := true
def G9 (x : vH) : OT fH.Y := .ok ⟨Bq, ((acw x.1.1 x.1.2.1, (x.1.1 * x.1.2.1, ())), ())⟩
theorem ab1 : ac Tryz.prog 165 (fH.aD EI G9) := OB _ _ fun x oy _ ho => by
  rw [← ho]
  simp only [G9, yp, alu]
def qI : cv := (fH.aD EI G9)
theorem KO : ac Tryz.prog 165 qI := ab1
theorem KN : aF qI := az
def tT : Env := ay 165 qI tR
theorem re : aQ Tryz.prog tT := ah KO rc
theorem tS : av tT := ae KN tQ
theorem LC : aV Tryz.prog te tT := aJ follows ar re tS
def fI : ao := ⟨[.val false .u64], [], true, 0, false⟩
abbrev vK : Type := ((UInt64) × Unit) × (Unit)
def dD : aw := ⟨[.val false .int], [], false⟩
def EK : SV → Option aw := fun _ => some dD
def sW (a0 : UInt64) : OT fI.Y :=
  let z0 : UInt64 := bl a0 (32 : Int)
  let z1 : UInt64 := bl z0 (16 : Int)
  let z2 : Int := (↑(UInt8.toNat (UInt64.toUInt8 (bl z1 (8 : Int)))) : Int)
  let z3 : List UInt8 := List.replicate 64 (8 : UInt8)
  let z4 : List UInt8 := List.append (List.append [(0 : UInt8), (1 : UInt8), (2 : UInt8), (2 : UInt8), (3 : UInt8), (3 : UInt8), (3 : UInt8), (3 : UInt8), (4 : UInt8), (4 : UInt8), (4 : UInt8), (4 : UInt8), (4 : UInt8), (4 : UInt8), (4 : UInt8), (4 : UInt8), (5 : UInt8), (5 : UInt8), (5 : UInt8), (5 : UInt8), (5 : UInt8), (5 : UInt8), (5 : UInt8), (5 : UInt8), (5 : UInt8), (5 : UInt8), (5 : UInt8), (5 : UInt8), (5 : UInt8), (5 : UInt8), (5 : UInt8), (5 : UInt8), (6 : UInt8), (6 : UInt8), (6 : UInt8), (6 : UInt8), (6 : UInt8), (6 : UInt8), (6 : UInt8), (6 : UInt8), (6 : UInt8), (6 : UInt8), (6 : UInt8), (6 : UInt8), (6 : UInt8), (6 : UInt8), (6 : UInt8), (6 : UInt8), (6 : UInt8), (6 : UInt8), (6 : UInt8), (6 : UInt8), (6 : UInt8), (6 : UInt8), (6 : UInt8), (6 : UInt8), (6 : UInt8), (6 : UInt8), (6 : UInt8), (6 : UInt8), (6 : UInt8), (6 : UInt8), (6 : UInt8), (6 : UInt8)] (List.replicate 64 (7 : UInt8))) (List.append z3 z3)
  let z5 : Int := (56 : Int) + (↑(UInt8.toNat (List.getD z4 (Int.toNat z2) (0 : UInt8))) : Int)
  let z6 : Int := (↑(UInt8.toNat (UInt64.toUInt8 z1)) : Int)
  let z7 : Int := (48 : Int) + (↑(UInt8.toNat (List.getD z4 (Int.toNat z6) (0 : UInt8))) : Int)
  let z8 : Int := (↑(UInt8.toNat (UInt64.toUInt8 (bl z0 (8 : Int)))) : Int)
  let z9 : Int := (40 : Int) + (↑(UInt8.toNat (List.getD z4 (Int.toNat z8) (0 : UInt8))) : Int)
  let z10 : Int := (↑(UInt8.toNat (UInt64.toUInt8 z0)) : Int)
  let z11 : Int := (32 : Int) + (↑(UInt8.toNat (List.getD z4 (Int.toNat z10) (0 : UInt8))) : Int)
  let z12 : UInt64 := bl a0 (16 : Int)
  let z13 : Int := (↑(UInt8.toNat (UInt64.toUInt8 (bl z12 (8 : Int)))) : Int)
  let z14 : Int := (24 : Int) + (↑(UInt8.toNat (List.getD z4 (Int.toNat z13) (0 : UInt8))) : Int)
  let z15 : Int := (↑(UInt8.toNat (UInt64.toUInt8 z12)) : Int)
  let z16 : Int := (16 : Int) + (↑(UInt8.toNat (List.getD z4 (Int.toNat z15) (0 : UInt8))) : Int)
  let z17 : Int := (↑(UInt8.toNat (UInt64.toUInt8 (bl a0 (8 : Int)))) : Int)
  let z18 : Int := (8 : Int) + (↑(UInt8.toNat (List.getD z4 (Int.toNat z17) (0 : UInt8))) : Int)
  let z19 : Int := (↑(UInt8.toNat (UInt64.toUInt8 a0)) : Int)
  let z20 : Int := (0 : Int) + (↑(UInt8.toNat (List.getD z4 (Int.toNat z19) (0 : UInt8))) : Int)
  (.br (decide ((4294967296 : UInt64) ≤ a0))
  (.br (decide ((65536 : UInt64) ≤ z0))
    (.br (decide ((256 : UInt64) ≤ z1))
      (gd [inB z2 256, inR z5] (.ok ⟨dD, ((z5, ()), ())⟩))
      (gd [inB z6 256, inR z7] (.ok ⟨dD, ((z7, ()), ())⟩)))
    (.br (decide ((256 : UInt64) ≤ z0))
      (gd [inB z8 256, inR z9] (.ok ⟨dD, ((z9, ()), ())⟩))
      (gd [inB z10 256, inR z11] (.ok ⟨dD, ((z11, ()), ())⟩))))
  (.br (decide ((65536 : UInt64) ≤ a0))
    (.br (decide ((256 : UInt64) ≤ z12))
      (gd [inB z13 256, inR z14] (.ok ⟨dD, ((z14, ()), ())⟩))
      (gd [inB z15 256, inR z16] (.ok ⟨dD, ((z16, ()), ())⟩)))
    (.br (decide ((256 : UInt64) ≤ a0))
      (gd [inB z17 256, inR z18] (.ok ⟨dD, ((z18, ()), ())⟩))
      (gd [inB z19 256, inR z20] (.ok ⟨dD, ((z20, ()), ())⟩)))))
theorem agp (x : vK) (Q : fI.Y → Prop) : wpf te tT ax 1000 Tryz.f166 (fI.inp.inj x).tm (fI.inp.inj x).hp (fnK fI EK Q) (fun _ _ => False) = (sW (x.1.1)).wpR Q := by kernel_rfl
theorem OG (pre : vK → Bool) (F : vK → OT fI.Y) (hF : ∀ (x : vK) oy, pre x = true → (F x).run = some oy → (sW (x.1.1)).run = some oy) : ac Tryz.prog 166 (fI.aD pre F) :=
  aB ar re LC (f := 166) (fn := Tryz.f166) (c := al Tryz.f166) (by kernel_rfl) (by kernel_rfl) (by kernel_rfl) (S := fI) (k := 0) (by kernel_rfl) (fun R hR => ag) (n := 1000) (sel := EK) (fun v o h => by cases h; rfl) (pre := pre) (F := F) (T := fun x => sW (x.1.1)) (fun x Q => agp x Q) hF
def dU (x : UInt64) : Bool := (x == 16513537) || (x == 16521217)
theorem cV {x : UInt64} (h : dU x = true) : x = 16513537 ∨ x = 16521217 := by
  simpa [dU] using h
def vJ (x : vK) : Bool := dU x.1.1
def TJ (_ : vK) : OT fI.Y := .ok ⟨dD, (((24 : Int), ()), ())⟩
theorem KT : (sW 16513537).run = some ⟨dD, (((24 : Int), ()), ())⟩ ∧ (sW 16521217).run = some ⟨dD, (((24 : Int), ()), ())⟩ := ⟨by kernel_rfl, by kernel_rfl⟩
theorem ab3 : ac Tryz.prog 166 (fI.aD vJ TJ) := OG _ _ fun x oy hp ho => by
  rw [← ho]
  clear ho
  obtain ⟨⟨x, ⟨⟩⟩, ⟨⟩⟩ := x
  rcases cV hp with h | h
  · have h : x = 16513537 := h
    subst h
    exact KT.1
  · have h : x = 16521217 := h
    subst h
    exact KT.2
def qJ : cv := (fI.aD vJ TJ)
theorem KS : ac Tryz.prog 166 qJ := ab3
theorem KR : aF qJ := az
def tV : Env := ay 166 qJ tT
theorem rh : aQ Tryz.prog tV := ah KS re
theorem tU : av tV := ae KR tS
theorem LD : aV Tryz.prog te tV := aJ follows ar rh tU
def jk : ao := ⟨[.val false .u64], [], true, 0, false⟩
abbrev EJ : Type := ((UInt64) × Unit) × (Unit)
def Ha : aw := ⟨[.val false .int], [], false⟩
def KP : SV → Option aw := fun _ => some Ha
def OE (a0 : UInt64) : OT jk.Y :=
  (gd [vJ ((a0, ()), ())] (.ok ⟨Ha, (((40 : Int), ()), ())⟩))
theorem akz (x : EJ) (Q : jk.Y → Prop) : wpf te tV ax 1000 Tryz.f154 (jk.inp.inj x).tm (jk.inp.inj x).hp (fnK jk KP Q) (fun _ _ => False) = (OE (x.1.1)).wpR Q := by kernel_rfl
theorem Ww (pre : EJ → Bool) (F : EJ → OT jk.Y) (hF : ∀ (x : EJ) oy, pre x = true → (F x).run = some oy → (OE (x.1.1)).run = some oy) : ac Tryz.prog 154 (jk.aD pre F) :=
  aB ar rh LD (f := 154) (fn := Tryz.f154) (c := al Tryz.f154) (by kernel_rfl) (by kernel_rfl) (by kernel_rfl) (S := jk) (k := 0) (by kernel_rfl) (fun R hR => ag) (n := 1000) (sel := KP) (fun v o h => by cases h; rfl) (pre := pre) (F := F) (T := fun x => OE (x.1.1)) (fun x Q => akz x Q) hF
def Br (x : EJ) : Bool := dU x.1.1
def ab2 (_ : EJ) : OT jk.Y := .ok ⟨Ha, (((40 : Int), ()), ())⟩
theorem ago : ac Tryz.prog 154 (jk.aD Br ab2) := Ww _ _ fun x oy hp ho => by
  rw [← ho]
  clear ho
  obtain ⟨⟨x, ⟨⟩⟩, ⟨⟩⟩ := x
  have hp : dU x = true := hp
  refine (aj ?_).trans rfl
  simp only [List.all_cons, List.all_nil, Bool.and_true, Bool.and_eq_true]
  first | exact hp | exact ⟨hp, rfl⟩
def vI : cv := (jk.aD Br ab2)
theorem OD : ac Tryz.prog 154 vI := ago
theorem OC : aF vI := az
def rg : Env := ay 154 vI tV
theorem kZ : aQ Tryz.prog rg := ah OD rh
theorem xD : av rg := ae OC tU
theorem rf : aV Tryz.prog te rg := aJ follows ar kZ xD
def eG : ao := ⟨[.val false .u64, .val false .u64, .val false .u64], [], true, 0, false⟩
abbrev vL : Type := ((UInt64) × (UInt64) × (UInt64) × Unit) × (Unit)
def nJ : Shape := ⟨135, [(2, .val false .u64), (8, .val false .u64), (9, .val false .u64), (10, .val false .u64), (11, .val false .u64), (13, .val false .u64), (14, .val false .u64), (15, .val false .u64), (16, .val false .u64)], [], 0, true⟩
abbrev bY : Type := ((UInt64) × (UInt64) × (UInt64) × (UInt64) × (UInt64) × (UInt64) × (UInt64) × (UInt64) × (UInt64) × Unit) × (Unit)
def jn : Shape := ⟨135, [(2, .val false .u64), (8, .val false .u64), (9, .val false .u64), (10, .val false .u64), (11, .val false .u64), (13, .val false .u64), (14, .val false .u64), (15, .val false .u64)], [], 0, true⟩
abbrev gz : Type := ((UInt64) × (UInt64) × (UInt64) × (UInt64) × (UInt64) × (UInt64) × (UInt64) × (UInt64) × Unit) × (Unit)
def KY : SE → Option Shape := jt [(0, jn)] none
def acb (a2 : UInt64) (a8 : UInt64) (a9 : UInt64) (a10 : UInt64) (a11 : UInt64) (a13 : UInt64) (a14 : UInt64) (a15 : UInt64) (a16 : UInt64) : OT (Sum bY aL) :=
  let z0 : Bool := decide ((4294967296 : UInt64) ≤ a16 + a9)
  (.br (decide ((4294967296 : UInt64) ≤ a15))
  (.br (z0)
    (.ok (.inr ⟨(.exit 0, jn), ((a2, (a8, (a9, (a10, (a11, (a13, (a14, (a15 - (1 : UInt64), ())))))))), ())⟩))
    (.ok (.inl ((a2, (a8, (a9, (a10, (a11, (a13, (a14, (a15 - (1 : UInt64), (a16 + a9, ()))))))))), ()))))
  (.br (decide ((4294967296 : UInt64) * a16 + a13 < a15 * a10))
    (.br (z0)
      (.ok (.inr ⟨(.exit 0, jn), ((a2, (a8, (a9, (a10, (a11, (a13, (a14, (a15 - (1 : UInt64), ())))))))), ())⟩))
      (.ok (.inl ((a2, (a8, (a9, (a10, (a11, (a13, (a14, (a15 - (1 : UInt64), (a16 + a9, ()))))))))), ()))))
    (.ok (.inr ⟨(.exit 0, jn), ((a2, (a8, (a9, (a10, (a11, (a13, (a14, (a15, ())))))))), ())⟩))))
def s5 (s : bY) : OT (Sum bY aL) := acb (s.1.1) (s.1.2.1) (s.1.2.2.1) (s.1.2.2.2.1) (s.1.2.2.2.2.1) (s.1.2.2.2.2.2.1) (s.1.2.2.2.2.2.2.1) (s.1.2.2.2.2.2.2.2.1) (s.1.2.2.2.2.2.2.2.2.1)
theorem ab6 (s : bY) (Q : Sum bY aL → Prop) : wps te rg ax 1000 (bE (al Tryz.f128) 0) (nJ.inj s) (cM nJ KY (Q : Sum nJ.T aL → Prop)) = (s5 s).wpR Q := by kernel_rfl
def sZ (g0_0 : bY → gz) (s : bY) : OT aL := (.ok ⟨(.exit 0, jn), g0_0 s⟩)
def nI : Shape := ⟨135, [(2, .val false .u64), (8, .val false .u64), (9, .val false .u64), (10, .val false .u64), (14, .val false .u64), (15, .val false .u64), (16, .val false .u64), (17, .val false .u64), (18, .val false .u64)], [], 0, true⟩
abbrev bX : Type := ((UInt64) × (UInt64) × (UInt64) × (UInt64) × (UInt64) × (UInt64) × (UInt64) × (UInt64) × (UInt64) × Unit) × (Unit)
def jm : Shape := ⟨135, [(2, .val false .u64), (8, .val false .u64), (14, .val false .u64), (15, .val false .u64), (17, .val false .u64), (18, .val false .u64)], [], 0, true⟩
abbrev gy : Type := ((UInt64) × (UInt64) × (UInt64) × (UInt64) × (UInt64) × (UInt64) × Unit) × (Unit)
def KX : SE → Option Shape := jt [(2, jm)] none
def aca (a2 : UInt64) (a8 : UInt64) (a9 : UInt64) (a10 : UInt64) (a14 : UInt64) (a15 : UInt64) (a16 : UInt64) (a17 : UInt64) (a18 : UInt64) : OT (Sum bX aL) :=
  let z0 : Bool := decide ((4294967296 : UInt64) ≤ a16 + a9)
  (.br (decide ((4294967296 : UInt64) ≤ a18))
  (.br (z0)
    (.ok (.inr ⟨(.exit 2, jm), ((a2, (a8, (a14, (a15, (a17, (a18 - (1 : UInt64), ())))))), ())⟩))
    (.ok (.inl ((a2, (a8, (a9, (a10, (a14, (a15, (a16 + a9, (a17, (a18 - (1 : UInt64), ()))))))))), ()))))
  (.br (decide ((4294967296 : UInt64) * a16 + a14 < a18 * a10))
    (.br (z0)
      (.ok (.inr ⟨(.exit 2, jm), ((a2, (a8, (a14, (a15, (a17, (a18 - (1 : UInt64), ())))))), ())⟩))
      (.ok (.inl ((a2, (a8, (a9, (a10, (a14, (a15, (a16 + a9, (a17, (a18 - (1 : UInt64), ()))))))))), ()))))
    (.ok (.inr ⟨(.exit 2, jm), ((a2, (a8, (a14, (a15, (a17, (a18, ())))))), ())⟩))))
def s4 (s : bX) : OT (Sum bX aL) := aca (s.1.1) (s.1.2.1) (s.1.2.2.1) (s.1.2.2.2.1) (s.1.2.2.2.2.1) (s.1.2.2.2.2.2.1) (s.1.2.2.2.2.2.2.1) (s.1.2.2.2.2.2.2.2.1) (s.1.2.2.2.2.2.2.2.2.1)
theorem ab5 (s : bX) (Q : Sum bX aL → Prop) : wps te rg ax 1000 (bE (al Tryz.f128) 2) (nI.inj s) (cM nI KX (Q : Sum nI.T aL → Prop)) = (s4 s).wpR Q := by kernel_rfl
def sY (g2_2 : bX → gy) (s : bX) : OT aL := (.ok ⟨(.exit 2, jm), g2_2 s⟩)
def kQ : aw := ⟨[.val false .u64, .val false .u64], [], false⟩
def EM : SV → Option aw := fun _ => some kQ
def yr (ok0 : bY → Bool) (g0_0 : bY → gz) (ok2 : bX → Bool) (g2_2 : bX → gy) (a0 : UInt64) (a1 : UInt64) (a2 : UInt64) : OT eG.Y :=
  let z0 : Bool := !a2 == (0 : UInt64)
  let z1 : UInt64 := cj a2 (40 : Int)
  let z2 : UInt64 := bl z1 (32 : Int)
  let z3 : UInt64 := cj a0 (40 : Int) ||| bl a1 (24 : Int)
  let z4 : UInt64 := cj a1 (40 : Int)
  let z5 : UInt64 := z3 / z2
  let z6 : (UInt64 × UInt64 × UInt64 × UInt64 × UInt64 × UInt64 × UInt64 × UInt64 × UInt64 × PUnit) × PUnit := ((z1, (40 : UInt64), z2, z1 &&& (4294967295 : UInt64), z3, bl z4 (32 : Int), z4 &&& (4294967295 : UInt64), z5, z3 - z5 * z2, ()), ())
  let z7 := (g0_0 z6).fst
  let z8 := z7.snd
  let z9 := z8.snd
  let z10 := z9.fst
  let z11 := z7.fst
  let z12 := z9.snd
  let z13 := z12.snd
  let z14 := z13.snd
  let z15 := z14.snd
  let z16 := z15.snd.fst
  let z17 : UInt64 := z13.fst * (4294967296 : UInt64) + z14.fst - z16 * z11
  let z18 : UInt64 := z17 / z10
  let z19 : (UInt64 × UInt64 × UInt64 × UInt64 × UInt64 × UInt64 × UInt64 × UInt64 × UInt64 × PUnit) × PUnit := ((z11, z8.fst, z10, z12.fst, z15.fst, z16, z17 - z18 * z10, z17, z18, ()), ())
  let z20 := (g2_2 z19).fst
  let z21 := z20.snd
  let z22 := z21.snd
  let z23 := z22.snd
  let z24 := z23.snd
  let z25 := z24.snd.fst
  (.br (a2 == (0 : UInt64))
  .fail
  (.br (decide (a2 ≤ a0))
    .fail
    (.br (a0 == (0 : UInt64))
      (gd [z0, z0] (.ok ⟨kQ, ((a1 / a2, (a1 % a2, ())), ())⟩))
      (gd [Br ((a2, ()), ()), !z2 == (0 : UInt64), ok0 z6, !z10 == (0 : UInt64), ok2 z19] (.ok ⟨kQ, ((z23.fst * (4294967296 : UInt64) + z25, (bl (z24.fst * (4294967296 : UInt64) + z22.fst - z25 * z20.fst) (↑(UInt64.toNat z21.fst) : Int), ())), ())⟩)))))
theorem agq (ok0 : bY → Bool) (g0_0 : bY → gz) (ok2 : bX → Bool) (g2_2 : bX → gy) (x : vL) (Q : eG.Y → Prop) : wpf te rg (bg 2 (db nI 2 ok2 (sY g2_2)) (bg 0 (db nJ 0 ok0 (sZ g0_0)) ax)) 1000 Tryz.f128 (eG.inp.inj x).tm (eG.inp.inj x).hp (fnK eG EM Q) (fun _ _ => False) = (yr ok0 g0_0 ok2 g2_2 (x.1.1) (x.1.2.1) (x.1.2.2.1)).wpR Q := by kernel_rfl
theorem OL (ok0 : bY → Bool) (g0_0 : bY → gz) (ok2 : bX → Bool) (g2_2 : bX → gy) (h0 : ∀ s : bY, ok0 s = true → ∃ m e, aq (s5) m s = some e ∧ (sZ g0_0 s).run = some e) (h2 : ∀ s : bX, ok2 s = true → ∃ m e, aq (s4) m s = some e ∧ (sY g2_2 s).run = some e) (pre : vL → Bool) (F : vL → OT eG.Y) (hF : ∀ (x : vL) oy, pre x = true → (F x).run = some oy → (yr ok0 g0_0 ok2 g2_2 (x.1.1) (x.1.2.1) (x.1.2.2.1)).run = some oy) : ac Tryz.prog 128 (eG.aD pre F) :=
  aB ar kZ rf (f := 128) (fn := Tryz.f128) (c := al Tryz.f128) (by kernel_rfl) (by kernel_rfl) (by kernel_rfl) (S := eG) (k := 0) (by kernel_rfl) (fun R hR => (aC (c := (al Tryz.f128)) (by kernel_rfl) (id := 2) (by kernel_rfl) (bo ar kZ rf (sh := nI) hR (xs := KX) (aE (by kernel_rfl) (by kernel_rfl) hR) aS ag (n := 1000) (T := s4) (fun s Q => ab5 s Q) (ok := ok2) (f := sY g2_2) h2) (aC (c := (al Tryz.f128)) (by kernel_rfl) (id := 0) (by kernel_rfl) (bo ar kZ rf (sh := nJ) hR (xs := KY) (aE (by kernel_rfl) (by kernel_rfl) hR) aS ag (n := 1000) (T := s5) (fun s Q => ab6 s Q) (ok := ok0) (f := sZ g0_0) h0) ag))) (n := 1000) (sel := EM) (fun v o h => by cases h; rfl) (pre := pre) (F := F) (T := fun x => yr ok0 g0_0 ok2 g2_2 (x.1.1) (x.1.2.1) (x.1.2.2.1)) (fun x Q => agq ok0 g0_0 ok2 g2_2 x Q) hF
def EO (s : bY) : Bool := decide (s.1.2.2.2.1 = 0 ∧ s.1.2.2.2.2.2.2.2.1 < 4294967296)
def K3 (s : bY) : gz := ((s.1.1, s.1.2.1, s.1.2.2.1, s.1.2.2.2.1, s.1.2.2.2.2.1, s.1.2.2.2.2.2.1, s.1.2.2.2.2.2.2.1, s.1.2.2.2.2.2.2.2.1, ()), ())
theorem zE {a b : UInt64} (h : b < a) : decide (a ≤ b) = false := decide_eq_false (by rw [UInt64.le_iff_toNat_le, UInt64.lt_iff_toNat_lt] at *; omega)
theorem not_lt_zero {a b : UInt64} : decide (a < b * 0) = false := decide_eq_false (by
  have : b * 0 = 0 := by rw [← UInt64.toNat_inj]; simp
  rw [this, UInt64.lt_iff_toNat_lt]
  exact Nat.not_lt_zero _)
theorem ab9 : ∀ s : bY, EO s = true → ∃ m e, aq s5 m s = some e ∧ (sZ K3 s).run = some e := by
  rintro ⟨⟨a2, a8, a9, a10, a11, a13, a14, a15, a16, ⟨⟩⟩, ⟨⟩⟩ h
  have h' := of_decide_eq_true h
  dsimp only at h'
  obtain ⟨rfl, hl⟩ := h'
  exact ⟨1, _, aI ((OT.au (zE hl)).trans (OT.au not_lt_zero)), rfl⟩
def EN (s : bX) : Bool := decide (s.1.2.2.2.1 = 0 ∧ s.1.2.2.2.2.2.2.2.2.1 < 4294967296)
def K2 (s : bX) : gy := ((s.1.1, s.1.2.1, s.1.2.2.2.2.1, s.1.2.2.2.2.2.1, s.1.2.2.2.2.2.2.2.1, s.1.2.2.2.2.2.2.2.2.1, ()), ())
theorem ab8 : ∀ s : bX, EN s = true → ∃ m e, aq s4 m s = some e ∧ (sY K2 s).run = some e := by
  rintro ⟨⟨a2, a8, a9, a10, a14, a15, a16, a17, a18, ⟨⟩⟩, ⟨⟩⟩ h
  have h' := of_decide_eq_true h
  dsimp only at h'
  obtain ⟨rfl, hl⟩ := h'
  exact ⟨1, _, aI ((OT.au (zE hl)).trans (OT.au not_lt_zero)), rfl⟩
def o0 (x : vL) : Bool := dU x.1.2.2.1 && decide (x.1.1 < x.1.2.2.1)
def Hf (x : vL) : OT eG.Y := .ok ⟨kQ, ((akR x.1.1 x.1.2.1 x.1.2.2.1, Kr x.1.1 x.1.2.1 x.1.2.2.1, ()), ())⟩
theorem W0 {v z : Nat} (hv : v < 4294967296) (hz : z < 4294967296) : (v * 4294967296 % 2 ^ 64 + z) % 2 ^ 64 = (v * (256 * 16777216) + z) % 2 ^ 64 := by
  rw [Nat.mod_eq_of_lt (a := v * 4294967296) (by omega)]
theorem acz {s : Nat} (hs : s < 4294967296) : s * 4294967296 / 2 ^ 40 = s / 256 % 2 ^ 64 := by
  rw [Nat.mod_eq_of_lt (by omega), show (2 : Nat) ^ 40 = 256 * 4294967296 from rfl, Nat.mul_div_mul_right _ _ (by omega)]
theorem KZ {h l y : UInt64} {m : Nat} (hm : y.toNat = m) (hy : (cj y 40).toNat = m * 1099511627776) (hy1 : (bl (cj y 40) 32).toNat = m * 256) (hy0 : cj y 40 &&& 4294967295 = 0) (hm0 : 0 < m) (hm1 : m < 16777216) (hh : h.toNat < m) :
    let u := cj h 40 ||| bl l 24
    let q1 := u / bl (cj y 40) 32
    let un21 := u * 4294967296 + bl (cj l 40) 32 - q1 * cj y 40
    let q0 := un21 / bl (cj y 40) 32
    q1 < 4294967296 ∧ q0 < 4294967296 ∧ q1 * 4294967296 + q0 = akR h l y ∧ bl (un21 * 4294967296 + (cj l 40 &&& 4294967295) - q0 * cj y 40) 40 = Kr h l y := by
  intro u q1 un21 q0
  have hl := l.toNat_lt
  have hu : u.toNat = h.toNat * 1099511627776 + l.toNat / 16777216 := by
    have e1 : (cj h 40).toNat = h.toNat * 1099511627776 := by
      rw [show ((40 : Int)) = ((40 : Nat) : Int) from rfl, j9 _ _ (by omega)]
      exact Nat.mod_eq_of_lt (by omega)
    have e2 : (bl l 24).toNat = l.toNat / 16777216 := eX l 24 (by omega)
    simp only [u]
    rw [UInt64.toNat_or, e1, e2, Nat.mul_comm]
    have := Nat.two_pow_add_eq_or_of_lt (i := 40) (b := l.toNat / 16777216) (by omega) h.toNat
    exact this.symm
  have hun1 : (bl (cj l 40) 32).toNat = l.toNat % 16777216 * 256 := by
    rw [show ((32 : Int)) = ((32 : Nat) : Int) from rfl, eX _ _ (by omega), show ((40 : Int)) = ((40 : Nat) : Int) from rfl, j9 _ _ (by omega)]
    omega
  have hun0 : cj l 40 &&& 4294967295 = 0 := by
    rw [← UInt64.toNat_inj, ga, show ((40 : Int)) = ((40 : Nat) : Int) from rfl, j9 _ _ (by omega)]
    show l.toNat * 2 ^ 40 % 2 ^ 64 % 4294967296 = 0
    omega
  have hq1 : q1.toNat = u.toNat / (m * 256) := by simp only [q1]; rw [UInt64.toNat_div, hy1]
  have hN : h.toNat * 18446744073709551616 + l.toNat = u.toNat * 16777216 + l.toNat % 16777216 := by rw [hu]; omega
  have hqr : u.toNat = q1.toNat * (m * 256) + u.toNat % (m * 256) := by
    rw [hq1, Nat.mul_comm]
    exact (Nat.div_add_mod _ _).symm
  have hr : u.toNat % (m * 256) < m * 256 := Nat.mod_lt _ (by omega)
  have hul : u.toNat < m * 256 * 4294967296 := by rw [hu]; omega
  have hq1l : q1.toNat < 4294967296 := by rw [hq1]; exact Nat.div_lt_of_lt_mul hul
  generalize hrr : u.toNat % (m * 256) = r at *
  have hprod : q1.toNat * (m * 1099511627776) = q1.toNat * (m * 256) * 4294967296 := by
    rw [Nat.mul_assoc, Nat.mul_assoc]
  have h21 : un21.toNat = r * 4294967296 + l.toNat % 16777216 * 256 := by
    simp only [un21]
    rw [UInt64.toNat_sub, UInt64.toNat_add, UInt64.toNat_mul, UInt64.toNat_mul, hun1, hy, hprod, show (4294967296 : UInt64).toNat = 4294967296 from rfl]
    generalize q1.toNat * (m * 256) = A at *
    omega
  have hq0 : q0.toNat = un21.toNat / (m * 256) := by simp only [q0]; rw [UInt64.toNat_div, hy1]
  have h21l : un21.toNat < m * 256 * 4294967296 := by rw [h21]; omega
  have hq0l : q0.toNat < 4294967296 := by rw [hq0]; exact Nat.div_lt_of_lt_mul h21l
  have hqr0 : un21.toNat = q0.toNat * (m * 256) + un21.toNat % (m * 256) := by
    rw [hq0, Nat.mul_comm]
    exact (Nat.div_add_mod _ _).symm
  have hr0 : un21.toNat % (m * 256) < m * 256 := Nat.mod_lt _ (by omega)
  obtain ⟨d1, d2⟩ := GR (K := 16777216) (L := 256) hm0 (by omega) hN hqr
  have e21 : (r * 16777216 + l.toNat % 16777216) * 256 = un21.toNat := by rw [h21]; omega
  rw [e21] at d1 d2
  refine ⟨by rw [UInt64.lt_iff_toNat_lt]; exact hq1l, by rw [UInt64.lt_iff_toNat_lt]; exact hq0l, ?_, ?_⟩
  · rw [← UInt64.toNat_inj, UInt64.toNat_add, UInt64.toNat_mul, show (4294967296 : UInt64).toNat = 4294967296 from rfl, hq0]
    unfold akR
    rw [hm, UInt64.toNat_ofNat', d1, ← hq0]
    exact W0 hq1l hq0l
  · have hprod0 : q0.toNat * (m * 1099511627776) = q0.toNat * (m * 256) * 4294967296 := by
      rw [Nat.mul_assoc, Nat.mul_assoc]
    have e3 : (un21 * 4294967296 + (cj l 40 &&& 4294967295) - q0 * cj y 40).toNat = (un21.toNat % (m * 256)) * 4294967296 := by
      rw [hun0, UInt64.toNat_sub, UInt64.toNat_add, UInt64.toNat_mul, UInt64.toNat_mul, hy, hprod0, show (4294967296 : UInt64).toNat = 4294967296 from rfl, show (0 : UInt64).toNat = 0 from rfl]
      generalize un21.toNat % (m * 256) = s at *
      generalize q0.toNat * (m * 256) = A at *
      omega
    rw [← UInt64.toNat_inj, show ((40 : Int)) = ((40 : Nat) : Int) from rfl, eX _ _ (by omega), show ((40 : Nat) : Int) = 40 from rfl, e3]
    unfold Kr
    rw [hm, UInt64.toNat_ofNat', d2]
    exact acz (by omega)
theorem LV {y : UInt64} (h : dU y = true) : ∃ m, y.toNat = m ∧ (cj y 40).toNat = m * 1099511627776 ∧ (bl (cj y 40) 32).toNat = m * 256 ∧ cj y 40 &&& 4294967295 = 0 ∧ 0 < m ∧ m < 16777216 := by
  rcases cV h with rfl | rfl
  · exact ⟨16513537, rfl, by decide +kernel, by decide +kernel, by decide +kernel, by omega, by omega⟩
  · exact ⟨16521217, rfl, by decide +kernel, by decide +kernel, by decide +kernel, by omega, by omega⟩
theorem ab7 : ac Tryz.prog 128 (eG.aD o0 Hf) := OL EO K3 EN K2 ab9 ab8 _ _ fun x oy hp ho => by
  rw [← ho]
  clear ho
  obtain ⟨⟨h, l, y, ⟨⟩⟩, ⟨⟩⟩ := x
  have hp' : (dU y && decide (h < y)) = true := hp
  rw [Bool.and_eq_true] at hp'
  obtain ⟨hs, hlt⟩ := hp'
  have hlt := of_decide_eq_true hlt
  obtain ⟨m, f1, f2, f3, f4, f5, f6⟩ := LV hs
  have hh : h.toNat < m := by rw [← f1]; exact UInt64.lt_iff_toNat_lt.1 hlt
  have hy0 : ¬ y = 0 := fun e => by rw [e] at f1; simp at f1; omega
  have hyb : (y == 0) = false := by simpa using hy0
  have hle : decide (y ≤ h) = false := zE hlt
  unfold yr
  refine (OT.au hyb).trans ((OT.au hle).trans ?_)
  by_cases h0 : h = 0
  · subst h0
    refine (OT.ap rfl).trans ((aj ?_).trans ?_)
    · simp only [hyb, List.all_cons, List.all_nil, Bool.and_true, Bool.not_false]
    · have e1 : akR 0 l y = l / y := by
        rw [← UInt64.toNat_inj]
        unfold akR
        rw [UInt64.toNat_ofNat', UInt64.toNat_div, show (0 : UInt64).toNat = 0 from rfl, Nat.zero_mul, Nat.zero_add]
        exact Nat.mod_eq_of_lt (Nat.lt_of_le_of_lt (Nat.div_le_self _ _) l.toNat_lt)
      have e2 : Kr 0 l y = l % y := by
        rw [← UInt64.toNat_inj]
        unfold Kr
        rw [UInt64.toNat_ofNat', UInt64.toNat_mod, show (0 : UInt64).toNat = 0 from rfl, Nat.zero_mul, Nat.zero_add]
        exact Nat.mod_eq_of_lt (Nat.lt_of_le_of_lt (Nat.mod_le _ _) l.toNat_lt)
      simp only [Hf, e1, e2]
  · have hb : (h == 0) = false := by simpa using h0
    obtain ⟨w1, w2, w3, w4⟩ := KZ (l := l) f1 f2 f3 f4 f5 f6 hh
    have hz : (!(bl (cj y 40) 32 == 0)) = true := by
      have : ¬ bl (cj y 40) 32 = 0 := fun e => by rw [e] at f3; simp at f3; omega
      simpa using this
    refine (OT.au hb).trans ((aj ?_).trans ?_)
    · simp only [List.all_cons, List.all_nil, Bool.and_true, Bool.and_eq_true]
      exact ⟨hs, hz, decide_eq_true ⟨f4, w1⟩, hz, decide_eq_true ⟨f4, w2⟩⟩
    · show some (⟨kQ, ((_, bl _ ((40 : UInt64).toNat : Int), ()), ())⟩ : eG.Y) = some ⟨kQ, ((akR h l y, Kr h l y, ()), ())⟩
      rw [← w3, ← w4]
      rfl
def qK : cv := (eG.aD o0 Hf)
theorem K1 : ac Tryz.prog 128 qK := ab7
theorem K0 : aF qK := az
def pi : Env := ay 128 qK rg
theorem lY : aQ Tryz.prog pi := ah K1 kZ
theorem tW : av pi := ae K0 xD
theorem xE : aV Tryz.prog te pi := aJ follows ar lY tW
def ml : ao := ⟨[.val true .elem, .val true .elem], [], true, 0, false⟩
abbrev T3 : Type := ((ab) × (ab) × Unit) × (Unit)
def yG : Shape := ⟨29, [(2, .ptr 0 0 0), (3, .ptr 1 0 0), (4, .ptr 2 0 0), (6, .ptr 3 0 0), (7, .val false .u64), (9, .val false .int)], [(0, .row .u64), (1, .row .u64), (2, .row .u64), (3, .row .u64)], 0, true⟩
abbrev cF : Type := ((Unit) × (Unit) × (Unit) × (Unit) × (UInt64) × (Int) × Unit) × ((List (UInt64)) × (List (UInt64)) × (List (UInt64)) × (List (UInt64)) × Unit)
def rm : Shape := ⟨29, [(4, .ptr 0 0 0), (6, .ptr 1 0 0), (7, .val false .u64)], [(0, .row .u64), (1, .row .u64)], 0, true⟩
abbrev j6 : Type := ((Unit) × (Unit) × (UInt64) × Unit) × ((List (UInt64)) × (List (UInt64)) × Unit)
def W6 : SE → Option Shape := jt [(0, rm)] none
def ahs (a7 : UInt64) (a9 : Int) (c0 : List (UInt64)) (c1 : List (UInt64)) (c2 : List (UInt64)) (c3 : List (UInt64)) : OT (Sum cF aL) :=
  let z0 : Bool := inB a9 4
  let z1 : UInt64 := List.getD c0 (Int.toNat a9 + 0) (0 : UInt64)
  let z2 : UInt64 := List.getD c1 (Int.toNat a9 + 0) (0 : UInt64)
  (.br (decide (a9 < (4 : Int)))
  (gd [z0, decide (Int.toNat a9 + 0 < List.length c0), z0, decide (Int.toNat a9 + 0 < List.length c1), vM ((z1, z2, a7, ()), ()), z0, decide (Int.toNat a9 + 0 < List.length c3), inR (a9 + (1 : Int))] (.ok (.inl (((), ((), ((), ((), (rj z1 z2 a7, (a9 + (1 : Int), ())))))), (c0, (c1, (c2, (List.set c3 (Int.toNat a9 + 0) (pj z1 z2 a7), ()))))))))
  (.ok (.inr ⟨(.exit 0, rm), (((), ((), (a7, ()))), (c2, (c3, ())))⟩)))
def yH (s : cF) : OT (Sum cF aL) := ahs (s.1.2.2.2.2.1) (s.1.2.2.2.2.2.1) (s.2.1) (s.2.2.1) (s.2.2.2.1) (s.2.2.2.2.1)
theorem ahp (s : cF) (Q : Sum cF aL → Prop) : wps te pi ax 1000 (bE (al Tryz.f119) 0) (yG.inj s) (cM yG W6 (Q : Sum yG.T aL → Prop)) = (yH s).wpR Q := by kernel_rfl
def Fe (g0_0 : cF → j6) (s : cF) : OT aL := (.ok ⟨(.exit 0, rm), g0_0 s⟩)
def LM : aw := ⟨[.val true .elem, .val false .bool], [], false⟩
def Pp : SV → Option aw := fun _ => some LM
def W9 (ok0 : cF → Bool) (g0_0 : cF → j6) (a0 : ab) (a1 : ab) : OT ml.Y :=
  let z0 : (PUnit × PUnit × PUnit × PUnit × UInt64 × Int × PUnit) × List UInt64 × List UInt64 × List UInt64 × List UInt64 × PUnit := (((), (), (), (), (0 : UInt64), (0 : Int), ()), [a0.w0, a0.w1, a0.w2, a0.w3], [a1.w0, a1.w1, a1.w2, a1.w3], [(0 : UInt64), (0 : UInt64), (0 : UInt64), (0 : UInt64)], [(0 : UInt64), (0 : UInt64), (0 : UInt64), (0 : UInt64)], ())
  let z1 : (PUnit × PUnit × UInt64 × PUnit) × List UInt64 × List UInt64 × PUnit := g0_0 z0
  let z2 := z1.snd
  let z3 := z2.snd.fst
  let z4 := z2.fst
  let z5 : List UInt64 := lay z4 z3 4 (0 : UInt64)
  (gd [ok0 z0, decide (4 ≤ List.length z3), decide ((4 / 1 : Nat) + 0 ≤ List.length z4), decide (4 ≤ List.length z5)] (.ok ⟨LM, (({ w0 := List.getD z5 0 0, w1 := List.getD z5 1 0, w2 := List.getD z5 2 0, w3 := List.getD z5 3 0 }, (!z1.fst.snd.snd.fst == (0 : UInt64), ())), ())⟩))
theorem akY (ok0 : cF → Bool) (g0_0 : cF → j6) (x : T3) (Q : ml.Y → Prop) : wpf te pi (bg 0 (db yG 0 ok0 (Fe g0_0)) ax) 1000 Tryz.f119 (ml.inp.inj x).tm (ml.inp.inj x).hp (fnK ml Pp Q) (fun _ _ => False) = (W9 ok0 g0_0 (x.1.1) (x.1.2.1)).wpR Q := by kernel_rfl
theorem W7 (ok0 : cF → Bool) (g0_0 : cF → j6) (h0 : ∀ s : cF, ok0 s = true → ∃ m e, aq (yH) m s = some e ∧ (Fe g0_0 s).run = some e) (pre : T3 → Bool) (F : T3 → OT ml.Y) (hF : ∀ (x : T3) oy, pre x = true → (F x).run = some oy → (W9 ok0 g0_0 (x.1.1) (x.1.2.1)).run = some oy) : ac Tryz.prog 119 (ml.aD pre F) :=
  aB ar lY xE (f := 119) (fn := Tryz.f119) (c := al Tryz.f119) (by kernel_rfl) (by kernel_rfl) (by kernel_rfl) (S := ml) (k := 0) (by kernel_rfl) (fun R hR => (aC (c := (al Tryz.f119)) (by kernel_rfl) (id := 0) (by kernel_rfl) (bo ar lY xE (sh := yG) hR (xs := W6) (aE (by kernel_rfl) (by kernel_rfl) hR) aS ag (n := 1000) (T := yH) (fun s Q => ahp s Q) (ok := ok0) (f := Fe g0_0) h0) ag)) (n := 1000) (sel := Pp) (fun v o h => by cases h; rfl) (pre := pre) (F := F) (T := fun x => W9 ok0 g0_0 (x.1.1) (x.1.2.1)) (fun x Q => akY ok0 g0_0 x Q) hF
def CZ (a b : List UInt64) (k : Nat) (s : List UInt64 × UInt64) : List UInt64 × UInt64 := (s.1.set k (pj (a.getD k 0) (b.getD k 0) s.2), rj (a.getD k 0) (b.getD k 0) s.2)
def Pr (s : cF) : Bool := decide (s.1.2.2.2.2.1 = 0 ∧ s.1.2.2.2.2.2.1 = 0 ∧ s.2.1.length = 4 ∧ s.2.2.1.length = 4 ∧ s.2.2.2.2.1 = [0, 0, 0, 0])
def W8 (s : cF) : j6 := (((), (), (upto (CZ s.2.1 s.2.2.1) ([0, 0, 0, 0], 0) 4).2, ()), (s.2.2.2.1, (upto (CZ s.2.1 s.2.2.1) ([0, 0, 0, 0], 0) 4).1, ()))
theorem ahr : ∀ s : cF, Pr s = true → ∃ m e, aq yH m s = some e ∧ (Fe W8 s).run = some e := by
  rintro ⟨⟨⟨⟩, ⟨⟩, ⟨⟩, ⟨⟩, c, i, ⟨⟩⟩, ⟨c0, c1, c2, c3, ⟨⟩⟩⟩ h
  have h' := of_decide_eq_true h
  dsimp only at h'
  obtain ⟨rfl, rfl, h0, h1, rfl⟩ := h'
  have := (bN (T := yH) (fun k s => ((((), (), (), (), s.2, (k : Int), ()), (c0, c1, c2, s.1, ())) : cF)) (CZ c0 c1)
    (fun s => (⟨(.exit 0, rm), (((), (), s.2, ()), (c2, s.1, ()))⟩ : aL)) 4 ([0, 0, 0, 0], 0) (fun _ s => s.1.length = 4 ∧ s.2.toNat ≤ 1) ⟨rfl, by decide⟩ (fun k s hk hs => ⟨?_, ?_⟩) (fun s hs => ?_)).1
  · obtain ⟨m, hm⟩ := this
    exact ⟨m, _, hm, rfl⟩
  · refine (OT.ap (decide_eq_true (by dsimp only; omega))).trans ((aj ?_).trans ?_)
    · simp only [Int.toNat_natCast, Nat.add_zero, h0, h1, hs.1, List.all_cons, List.all_nil, Bool.and_true, Bool.and_eq_true]
      exact ⟨bF (by omega), decide_eq_true (by omega), bF (by omega), decide_eq_true (by omega), decide_eq_true hs.2, bF (by omega), decide_eq_true (by omega), bz (by omega)⟩
    · simp only [OT.jx, Int.toNat_natCast, Nat.add_zero]
      rfl
  · exact ⟨by simp only [CZ, List.length_set]; exact hs.1, vO hs.2⟩
  · exact OT.au (decide_eq_false (by dsimp only; omega))
theorem akJ (x y : List UInt64) (hx : x.length = 4) (hy : y.length = 4) : lay x y 4 0 = y := aat hx hy
def Pq (_ : T3) : Bool := true
def Xa (x : T3) : OT ml.Y := .ok ⟨LM, (((rk x.1.1 x.1.2.1).1, ((rk x.1.1 x.1.2.1).2, ())), ())⟩
theorem ahq : ac Tryz.prog 119 (ml.aD Pq Xa) := W7 Pr W8 ahr _ _ fun x oy hp ho => by
  rw [← ho]
  clear ho
  obtain ⟨⟨a, b, ⟨⟩⟩, ⟨⟩⟩ := x
  obtain ⟨_, hw⟩ := C0 a b
  refine (aj ?_).trans ?_
  · simp only [List.all_cons, List.all_nil, Bool.and_true, Bool.and_eq_true]
    exact ⟨rfl, rfl, rfl, rfl⟩
  · simp only [Xa, hw]
    rfl
def yF : cv := (ml.aD Pq Xa)
theorem T1 : ac Tryz.prog 119 yF := ahq
theorem T0 : aF yF := az
def ET : Env := ay 119 yF pi
theorem s8 : aQ Tryz.prog ET := ah T1 lY
theorem BD : av ET := ae T0 tW
theorem ES : aV Tryz.prog te ET := aJ follows ar s8 BD
def mi : ao := ⟨[.val true .elem, .val true .elem], [], true, 0, false⟩
abbrev TV : Type := ((ab) × (ab) × Unit) × (Unit)
def yA : Shape := ⟨29, [(2, .ptr 0 0 0), (3, .ptr 1 0 0), (4, .ptr 2 0 0), (6, .ptr 3 0 0), (7, .val false .u64), (9, .val false .int)], [(0, .row .u64), (1, .row .u64), (2, .row .u64), (3, .row .u64)], 0, true⟩
abbrev cE : Type := ((Unit) × (Unit) × (Unit) × (Unit) × (UInt64) × (Int) × Unit) × ((List (UInt64)) × (List (UInt64)) × (List (UInt64)) × (List (UInt64)) × Unit)
def rl : Shape := ⟨29, [(4, .ptr 0 0 0), (6, .ptr 1 0 0), (7, .val false .u64)], [(0, .row .u64), (1, .row .u64)], 0, true⟩
abbrev j5 : Type := ((Unit) × (Unit) × (UInt64) × Unit) × ((List (UInt64)) × (List (UInt64)) × Unit)
def WT : SE → Option Shape := jt [(0, rl)] none
def ahm (a7 : UInt64) (a9 : Int) (c0 : List (UInt64)) (c1 : List (UInt64)) (c2 : List (UInt64)) (c3 : List (UInt64)) : OT (Sum cE aL) :=
  let z0 : Bool := inB a9 4
  let z1 : UInt64 := List.getD c0 (Int.toNat a9 + 0) (0 : UInt64)
  let z2 : UInt64 := List.getD c1 (Int.toNat a9 + 0) (0 : UInt64)
  (.br (decide (a9 < (4 : Int)))
  (gd [z0, decide (Int.toNat a9 + 0 < List.length c0), z0, decide (Int.toNat a9 + 0 < List.length c1), vF ((z1, z2, a7, ()), ()), z0, decide (Int.toNat a9 + 0 < List.length c3), inR (a9 + (1 : Int))] (.ok (.inl (((), ((), ((), ((), (HI z1 z2 a7, (a9 + (1 : Int), ())))))), (c0, (c1, (c2, (List.set c3 (Int.toNat a9 + 0) (la z1 z2 a7), ()))))))))
  (.ok (.inr ⟨(.exit 0, rl), (((), ((), (a7, ()))), (c2, (c3, ())))⟩)))
def yB (s : cE) : OT (Sum cE aL) := ahm (s.1.2.2.2.2.1) (s.1.2.2.2.2.2.1) (s.2.1) (s.2.2.1) (s.2.2.2.1) (s.2.2.2.2.1)
theorem ahj (s : cE) (Q : Sum cE aL → Prop) : wps te ET ax 1000 (bE (al Tryz.f125) 0) (yA.inj s) (cM yA WT (Q : Sum yA.T aL → Prop)) = (yB s).wpR Q := by kernel_rfl
def Fb (g0_0 : cE → j5) (s : cE) : OT aL := (.ok ⟨(.exit 0, rl), g0_0 s⟩)
def LI : aw := ⟨[.val true .elem, .val false .bool], [], false⟩
def Ph : SV → Option aw := fun _ => some LI
def WW (ok0 : cE → Bool) (g0_0 : cE → j5) (a0 : ab) (a1 : ab) : OT mi.Y :=
  let z0 : (PUnit × PUnit × PUnit × PUnit × UInt64 × Int × PUnit) × List UInt64 × List UInt64 × List UInt64 × List UInt64 × PUnit := (((), (), (), (), (0 : UInt64), (0 : Int), ()), [a0.w0, a0.w1, a0.w2, a0.w3], [a1.w0, a1.w1, a1.w2, a1.w3], [(0 : UInt64), (0 : UInt64), (0 : UInt64), (0 : UInt64)], [(0 : UInt64), (0 : UInt64), (0 : UInt64), (0 : UInt64)], ())
  let z1 : (PUnit × PUnit × UInt64 × PUnit) × List UInt64 × List UInt64 × PUnit := g0_0 z0
  let z2 := z1.snd
  let z3 := z2.snd.fst
  let z4 := z2.fst
  let z5 : List UInt64 := lay z4 z3 4 (0 : UInt64)
  (gd [ok0 z0, decide (4 ≤ List.length z3), decide ((4 / 1 : Nat) + 0 ≤ List.length z4), decide (4 ≤ List.length z5)] (.ok ⟨LI, (({ w0 := List.getD z5 0 0, w1 := List.getD z5 1 0, w2 := List.getD z5 2 0, w3 := List.getD z5 3 0 }, (!z1.fst.snd.snd.fst == (0 : UInt64), ())), ())⟩))
theorem akV (ok0 : cE → Bool) (g0_0 : cE → j5) (x : TV) (Q : mi.Y → Prop) : wpf te ET (bg 0 (db yA 0 ok0 (Fb g0_0)) ax) 1000 Tryz.f125 (mi.inp.inj x).tm (mi.inp.inj x).hp (fnK mi Ph Q) (fun _ _ => False) = (WW ok0 g0_0 (x.1.1) (x.1.2.1)).wpR Q := by kernel_rfl
theorem WU (ok0 : cE → Bool) (g0_0 : cE → j5) (h0 : ∀ s : cE, ok0 s = true → ∃ m e, aq (yB) m s = some e ∧ (Fb g0_0 s).run = some e) (pre : TV → Bool) (F : TV → OT mi.Y) (hF : ∀ (x : TV) oy, pre x = true → (F x).run = some oy → (WW ok0 g0_0 (x.1.1) (x.1.2.1)).run = some oy) : ac Tryz.prog 125 (mi.aD pre F) :=
  aB ar s8 ES (f := 125) (fn := Tryz.f125) (c := al Tryz.f125) (by kernel_rfl) (by kernel_rfl) (by kernel_rfl) (S := mi) (k := 0) (by kernel_rfl) (fun R hR => (aC (c := (al Tryz.f125)) (by kernel_rfl) (id := 0) (by kernel_rfl) (bo ar s8 ES (sh := yA) hR (xs := WT) (aE (by kernel_rfl) (by kernel_rfl) hR) aS ag (n := 1000) (T := yB) (fun s Q => ahj s Q) (ok := ok0) (f := Fb g0_0) h0) ag)) (n := 1000) (sel := Ph) (fun v o h => by cases h; rfl) (pre := pre) (F := F) (T := fun x => WW ok0 g0_0 (x.1.1) (x.1.2.1)) (fun x Q => akV ok0 g0_0 x Q) hF
def CH (a b : List UInt64) (k : Nat) (s : List UInt64 × UInt64) : List UInt64 × UInt64 := (s.1.set k (la (a.getD k 0) (b.getD k 0) s.2), HI (a.getD k 0) (b.getD k 0) s.2)
def Pk (s : cE) : Bool := decide (s.1.2.2.2.2.1 = 0 ∧ s.1.2.2.2.2.2.1 = 0 ∧ s.2.1.length = 4 ∧ s.2.2.1.length = 4 ∧ s.2.2.2.2.1 = [0, 0, 0, 0])
def WV (s : cE) : j5 := (((), (), (upto (CH s.2.1 s.2.2.1) ([0, 0, 0, 0], 0) 4).2, ()), (s.2.2.2.1, (upto (CH s.2.1 s.2.2.1) ([0, 0, 0, 0], 0) 4).1, ()))
theorem ahl : ∀ s : cE, Pk s = true → ∃ m e, aq yB m s = some e ∧ (Fb WV s).run = some e := by
  rintro ⟨⟨⟨⟩, ⟨⟩, ⟨⟩, ⟨⟩, c, i, ⟨⟩⟩, ⟨c0, c1, c2, c3, ⟨⟩⟩⟩ h
  have h' := of_decide_eq_true h
  dsimp only at h'
  obtain ⟨rfl, rfl, h0, h1, rfl⟩ := h'
  have := (bN (T := yB) (fun k s => ((((), (), (), (), s.2, (k : Int), ()), (c0, c1, c2, s.1, ())) : cE)) (CH c0 c1)
    (fun s => (⟨(.exit 0, rl), (((), (), s.2, ()), (c2, s.1, ()))⟩ : aL)) 4 ([0, 0, 0, 0], 0) (fun _ s => s.1.length = 4 ∧ s.2.toNat ≤ 1) ⟨rfl, by decide⟩ (fun k s hk hs => ⟨?_, ?_⟩) (fun s hs => ?_)).1
  · obtain ⟨m, hm⟩ := this
    exact ⟨m, _, hm, rfl⟩
  · refine (OT.ap (decide_eq_true (by dsimp only; omega))).trans ((aj ?_).trans ?_)
    · simp only [Int.toNat_natCast, Nat.add_zero, h0, h1, hs.1, List.all_cons, List.all_nil, Bool.and_true, Bool.and_eq_true]
      exact ⟨bF (by omega), decide_eq_true (by omega), bF (by omega), decide_eq_true (by omega), decide_eq_true hs.2, bF (by omega), decide_eq_true (by omega), bz (by omega)⟩
    · simp only [OT.jx, Int.toNat_natCast, Nat.add_zero]
      rfl
  · exact ⟨by simp only [CH, List.length_set]; exact hs.1, ud⟩
  · exact OT.au (decide_eq_false (by dsimp only; omega))
def Pj (_ : TV) : Bool := true
def WX (x : TV) : OT mi.Y := .ok ⟨LI, (((jV x.1.1 x.1.2.1).1, ((jV x.1.1 x.1.2.1).2, ())), ())⟩
theorem ahk : ac Tryz.prog 125 (mi.aD Pj WX) := WU Pk WV ahl _ _ fun x oy hp ho => by
  rw [← ho]
  clear ho
  obtain ⟨⟨a, b, ⟨⟩⟩, ⟨⟩⟩ := x
  obtain ⟨_, hw⟩ := C2 a b
  refine (aj ?_).trans ?_
  · simp only [List.all_cons, List.all_nil, Bool.and_true, Bool.and_eq_true]
    exact ⟨rfl, rfl, rfl, rfl⟩
  · simp only [WX, hw]
    rfl
def yz : cv := (mi.aD Pj WX)
theorem TU : ac Tryz.prog 125 yz := ahk
theorem TT : aF yz := az
def Lb : Env := ay 125 yz ET
theorem Bx : aQ Tryz.prog Lb := ah TU s8
theorem Bz : av Lb := ae TT BD
theorem WB : aV Tryz.prog te Lb := aJ follows ar Bx Bz
def ig : ao := ⟨[.val true .elem, .val true .elem], [], true, 0, false⟩
abbrev C1 : Type := ((ab) × (ab) × Unit) × (Unit)
def Fc : aw := ⟨[.val false .bool], [], false⟩
def HM : SV → Option aw := fun _ => some Fc
def LL (a0 : ab) (a1 : ab) : OT ig.Y :=
  (.ok ⟨Fc, (((jV a0 a1).snd, ()), ())⟩)
theorem ahn (x : C1) (Q : ig.Y → Prop) : wpf te Lb ax 1000 Tryz.f86 (ig.inp.inj x).tm (ig.inp.inj x).hp (fnK ig HM Q) (fun _ _ => False) = (LL (x.1.1) (x.1.2.1)).wpR Q := by kernel_rfl
theorem TW (pre : C1 → Bool) (F : C1 → OT ig.Y) (hF : ∀ (x : C1) oy, pre x = true → (F x).run = some oy → (LL (x.1.1) (x.1.2.1)).run = some oy) : ac Tryz.prog 86 (ig.aD pre F) :=
  aB ar Bx WB (f := 86) (fn := Tryz.f86) (c := al Tryz.f86) (by kernel_rfl) (by kernel_rfl) (by kernel_rfl) (S := ig) (k := 0) (by kernel_rfl) (fun R hR => ag) (n := 1000) (sel := HM) (fun v o h => by cases h; rfl) (pre := pre) (F := F) (T := fun x => LL (x.1.1) (x.1.2.1)) (fun x Q => ahn x Q) hF
def HN (_ : C1) : Bool := true
def W1 (x : C1) : OT ig.Y := .ok ⟨Fc, ((Nat.blt x.1.1.nat x.1.2.1.nat, ()), ())⟩
theorem acB : ac Tryz.prog 86 (ig.aD HN W1) := TW _ _ fun x oy _ ho => ho
def ub : cv := (ig.aD HN W1)
theorem LK : ac Tryz.prog 86 ub := acB
theorem LJ : aF ub := az
def BA : Env := ay 86 ub Lb
theorem vP : aQ Tryz.prog BA := ah LK Bx
theorem wS : av BA := ae LJ Bz
theorem OU : aV Tryz.prog te BA := aJ follows ar vP wS
def lZ : ao := ⟨[.val true .elem, .val false .int], [], true, 0, false⟩
abbrev TZ : Type := ((ab) × (Int) × Unit) × (Unit)
def uc : aw := ⟨[.val false .bool], [], false⟩
def Pn : SV → Option aw := fun _ => some uc
def W5 (a0 : ab) (a1 : Int) : OT lZ.Y :=
  let z0 : Int := Int.tdiv a1 (64 : Int)
  let z1 : Int := Int.tmod a1 (64 : Int)
  (.br (decide ((0 : Int) ≤ a1))
  (.br (decide (a1 < (256 : Int)))
    (gd [true && inR z0, inB z0 4, decide (Int.toNat z0 + 0 < 4), decide ((0 : Int) ≤ z1)] (.ok ⟨uc, ((bl (List.getD [a0.w0, a0.w1, a0.w2, a0.w3] (Int.toNat z0 + 0) (0 : UInt64)) z1 &&& (1 : UInt64) == (1 : UInt64), ()), ())⟩))
    (.ok ⟨uc, ((false, ()), ())⟩))
  (.ok ⟨uc, ((false, ()), ())⟩))
theorem akX (x : TZ) (Q : lZ.Y → Prop) : wpf te BA ax 1000 Tryz.f84 (lZ.inp.inj x).tm (lZ.inp.inj x).hp (fnK lZ Pn Q) (fun _ _ => False) = (W5 (x.1.1) (x.1.2.1)).wpR Q := by kernel_rfl
theorem W4 (pre : TZ → Bool) (F : TZ → OT lZ.Y) (hF : ∀ (x : TZ) oy, pre x = true → (F x).run = some oy → (W5 (x.1.1) (x.1.2.1)).run = some oy) : ac Tryz.prog 84 (lZ.aD pre F) :=
  aB ar vP OU (f := 84) (fn := Tryz.f84) (c := al Tryz.f84) (by kernel_rfl) (by kernel_rfl) (by kernel_rfl) (S := lZ) (k := 0) (by kernel_rfl) (fun R hR => ag) (n := 1000) (sel := Pn) (fun v o h => by cases h; rfl) (pre := pre) (F := F) (T := fun x => W5 (x.1.1) (x.1.2.1)) (fun x Q => akX x Q) hF
def pw (a : ab) (i : Int) : Bool := cond (decide (0 ≤ i)) (cond (decide (i < 256)) (EL a.nat i.toNat) false) false
def Po (_ : TZ) : Bool := true
def agx (x : TZ) : OT lZ.Y := .ok ⟨uc, ((pw x.1.1 x.1.2.1, ()), ())⟩
theorem ab4 {a : ab} {i : Int} (h1 : 0 ≤ i) (h2 : i < 256) : (bl (List.getD [a.w0, a.w1, a.w2, a.w3] (Int.toNat (Int.tdiv i 64) + 0) 0) (Int.tmod i 64) &&& 1 == 1) = pw a i := by
  obtain ⟨n, rfl⟩ : ∃ n : Nat, i = (n : Int) := ⟨i.toNat, by omega⟩
  have hn : n < 256 := by omega
  have t1 : Int.tdiv (n : Int) 64 = ((n / 64 : Nat) : Int) := by rw [Int.tdiv_eq_ediv_of_nonneg (by omega)]; omega
  have t2 : Int.tmod (n : Int) 64 = ((n % 64 : Nat) : Int) := by rw [Int.tmod_eq_emod_of_nonneg (by omega)]; omega
  rw [t1, t2, OH, eX _ _ (by omega), Int.toNat_natCast, Nat.add_zero]
  have := TK (a := a) (q := n / 64) (r := n % 64) (by omega) (by omega)
  rw [show 64 * (n / 64) + n % 64 = n by omega] at this
  unfold pw EL
  rw [decide_eq_true h1, decide_eq_true h2, Int.toNat_natCast]
  simp only [cond_true]
  rw [← this]
  rfl
theorem aho : ac Tryz.prog 84 (lZ.aD Po agx) := W4 _ _ fun x oy _ ho => by
  rw [← ho]
  clear ho
  obtain ⟨⟨a, i, ⟨⟩⟩, ⟨⟩⟩ := x
  show _ = (OT.ok ⟨uc, ((pw a i, ()), ())⟩ : OT lZ.Y).run
  by_cases h1 : 0 ≤ i
  · refine (OT.ap (decide_eq_true h1)).trans ?_
    by_cases h2 : i < 256
    · refine (OT.ap (decide_eq_true h2)).trans ((aj ?_).trans ?_)
      · obtain ⟨n, rfl⟩ : ∃ n : Nat, i = (n : Int) := ⟨i.toNat, by omega⟩
        have t1 : Int.tdiv (n : Int) 64 = ((n / 64 : Nat) : Int) := by rw [Int.tdiv_eq_ediv_of_nonneg (by omega)]; omega
        have t2 : Int.tmod (n : Int) 64 = ((n % 64 : Nat) : Int) := by rw [Int.tmod_eq_emod_of_nonneg (by omega)]; omega
        simp only [t1, t2, Int.toNat_natCast, Nat.add_zero, List.all_cons, List.all_nil, Bool.and_true, Bool.and_eq_true, Bool.true_and]
        exact ⟨bz (by omega), bF (by omega), decide_eq_true (by omega), decide_eq_true (by omega)⟩
      · simp only [ab4 h1 h2]
    · have e : pw a i = false := by unfold pw; rw [decide_eq_true h1, decide_eq_false h2]; rfl
      rw [e]
      exact OT.au (decide_eq_false h2)
  · have e : pw a i = false := by unfold pw; rw [decide_eq_false h1]; rfl
    rw [e]
    exact OT.au (decide_eq_false h1)
def yD : cv := (lZ.aD Po agx)
theorem TY : ac Tryz.prog 84 yD := aho
theorem TX : aF yD := az
def Lc : Env := ay 84 yD BA
theorem BB : aQ Tryz.prog Lc := ah TY vP
theorem BC : av Lc := ae TX wS
theorem WC : aV Tryz.prog te Lc := aJ follows ar BB BC
def AH : ao := ⟨[.val false .int], [], true, 0, false⟩
abbrev akO : Type := ((Int) × Unit) × (Unit)
def wM : aw := ⟨[.val true (.prod .elem (.prod .int (.prod .u64 (.prod .u64 .elem)))), .val false .int], [], false⟩
def aaV : SV → Option aw := fun _ => some wM
def ajU (a0 : Int) : OT AH.Y :=
  let z0 : ab := { w0 := 0, w1 := 0, w2 := 0, w3 := 0 }
  let z1 : UInt64 × ab := ((0 : UInt64), z0)
  (.br (a0 == (0 : Int))
  (.ok ⟨wM, ((({ w0 := 16513537, w1 := 0, w2 := 0, w3 := 0 }, (9 : Int), (16513537 : UInt64), z1), ((0 : Int), ())), ())⟩)
  (.br (a0 == (1 : Int))
    (.ok ⟨wM, ((({ w0 := 16521217, w1 := 0, w2 := 0, w3 := 0 }, (11 : Int), (16521217 : UInt64), z1), ((0 : Int), ())), ())⟩)
    (.br (a0 == (2 : Int))
      (.ok ⟨wM, ((({ w0 := 11037532056220336129, w1 := 2469829653914515739, w2 := 0, w3 := 4611686018427387904 }, (32 : Int), (0 : UInt64), (11037532056220336127 : UInt64), { w0 := 10122100416058490895, w1 := 15551789045973377255, w2 := 8617542898466512152, w3 := 679271340751763220 }), ((0 : Int), ())), ())⟩)
      (.br (a0 == (3 : Int))
        (.ok ⟨wM, ((({ w0 := 10108024940646105089, w1 := 2469829653919213789, w2 := 0, w3 := 4611686018427387904 }, (32 : Int), (0 : UInt64), (10108024940646105087 : UInt64), { w0 := 18200867980676431887, w1 := 7474641938123724515, w2 := 9200329640471491984, w3 := 679271340771891881 }), ((0 : Int), ())), ())⟩)
        (.ok ⟨wM, (((z0, (0 : Int), (0 : UInt64), z1), ((20 : Int), ())), ())⟩)))))
theorem amv (x : akO) (Q : AH.Y → Prop) : wpf te Lc ax 1000 Tryz.f76 (AH.inp.inj x).tm (AH.inp.inj x).hp (fnK AH aaV Q) (fun _ _ => False) = (ajU (x.1.1)).wpR Q := by kernel_rfl
theorem afV (pre : akO → Bool) (F : akO → OT AH.Y) (hF : ∀ (x : akO) oy, pre x = true → (F x).run = some oy → (ajU (x.1.1)).run = some oy) : ac Tryz.prog 76 (AH.aD pre F) :=
  aB ar BB WC (f := 76) (fn := Tryz.f76) (c := al Tryz.f76) (by kernel_rfl) (by kernel_rfl) (by kernel_rfl) (S := AH) (k := 0) (by kernel_rfl) (fun R hR => ag) (n := 1000) (sel := aaV) (fun v o h => by cases h; rfl) (pre := pre) (F := F) (T := fun x => ajU (x.1.1)) (fun x Q => amv x Q) hF
abbrev HK : Type := ab × Int × UInt64 × UInt64 × ab
def alt : HK := (⟨0, 0, 0, 0⟩, 0, 0, 0, ⟨0, 0, 0, 0⟩)
def bJ : Nat → HK
  | 0 => (⟨16513537, 0, 0, 0⟩, 9, 16513537, 0, ⟨0, 0, 0, 0⟩)
  | 1 => (⟨16521217, 0, 0, 0⟩, 11, 16521217, 0, ⟨0, 0, 0, 0⟩)
  | 2 => (⟨11037532056220336129, 2469829653914515739, 0, 4611686018427387904⟩, 32, 0, 11037532056220336127, ⟨10122100416058490895, 15551789045973377255, 8617542898466512152, 679271340751763220⟩)
  | 3 => (⟨10108024940646105089, 2469829653919213789, 0, 4611686018427387904⟩, 32, 0, 10108024940646105087, ⟨18200867980676431887, 7474641938123724515, 9200329640471491984, 679271340771891881⟩)
  | _ => alt
def ak (s : Int) : Bool := decide (0 ≤ s) && decide (s < 4)
theorem cz {s : Int} (h : ak s = true) : s = 0 ∨ s = 1 ∨ s = 2 ∨ s = 3 := by
  simp only [ak, Bool.and_eq_true, decide_eq_true_eq] at h
  omega
theorem n3 {s : Int} (h : ak s = false) : (s == 0) = false ∧ (s == 1) = false ∧ (s == 2) = false ∧ (s == 3) = false := by
  have hn : ∀ k : Int, 0 ≤ k → k < 4 → (s == k) = false := fun k h0 h1 => by
    cases hb : s == k
    · rfl
    · have : s = k := by simpa using hb
      subst this
      simp only [ak, decide_eq_true h0, decide_eq_true h1, Bool.and_self] at h
      cases h
  exact ⟨hn 0 (by decide) (by decide), hn 1 (by decide) (by decide), hn 2 (by decide) (by decide), hn 3 (by decide) (by decide)⟩
def aaW (_ : akO) : Bool := true
def alO (x : akO) : OT AH.Y := .br (ak x.1.1) (.ok ⟨wM, ((bJ x.1.1.toNat, ((0 : Int), ())), ())⟩) (.ok ⟨wM, ((alt, ((20 : Int), ())), ())⟩)
theorem alN : ac Tryz.prog 76 (AH.aD aaW alO) := afV _ _ fun x oy _ ho => by
  rw [← ho]
  clear ho
  obtain ⟨⟨s, ⟨⟩⟩, ⟨⟩⟩ := x
  cases hs : ak s
  · obtain ⟨h0, h1, h2, h3⟩ := n3 hs
    exact (OT.au h0).trans ((OT.au h1).trans ((OT.au h2).trans ((OT.au h3).trans (OT.au (b := ak s) hs).symm)))
  · rcases cz hs with h | h | h | h
    all_goals
      have h : s = _ := h
      subst h
      rfl
theorem Fh (c : Int) : ak c = (!decide (c < 0) && !decide (3 < c)) := by
  rw [Bool.eq_iff_iff]
  simp only [ak, Bool.and_eq_true, decide_eq_true_eq, Bool.not_eq_true', decide_eq_false_iff_not]
  omega
def GF : cv := (AH.aD aaW alO)
theorem aaX : ac Tryz.prog 76 GF := alN
theorem aaU : aF GF := az
def acr : Env := ay 76 GF Lc
theorem HB : aQ Tryz.prog acr := ah aaX BB
theorem E3 : av acr := ae aaU BC
theorem acq : aV Tryz.prog te acr := aJ follows ar HB E3
def nn : ao := ⟨[.val false .int], [], true, 0, false⟩
abbrev VK : Type := ((Int) × Unit) × (Unit)
def AQ : aw := ⟨[.val true .elem, .val false .int], [], false⟩
def S2 : SV → Option aw := fun _ => some AQ
def aa5 (a0 : Int) : OT nn.Y :=
  (.br (ak a0)
  (.ok ⟨AQ, (((bJ (Int.toNat a0)).fst, ((0 : Int), ())), ())⟩)
  (.ok ⟨AQ, (({ w0 := 0, w1 := 0, w2 := 0, w3 := 0 }, ((20 : Int), ())), ())⟩))
theorem alS (x : VK) (Q : nn.Y → Prop) : wpf te acr ax 1000 Tryz.f66 (nn.inp.inj x).tm (nn.inp.inj x).hp (fnK nn S2 Q) (fun _ _ => False) = (aa5 (x.1.1)).wpR Q := by kernel_rfl
theorem aa4 (pre : VK → Bool) (F : VK → OT nn.Y) (hF : ∀ (x : VK) oy, pre x = true → (F x).run = some oy → (aa5 (x.1.1)).run = some oy) : ac Tryz.prog 66 (nn.aD pre F) :=
  aB ar HB acq (f := 66) (fn := Tryz.f66) (c := al Tryz.f66) (by kernel_rfl) (by kernel_rfl) (by kernel_rfl) (S := nn) (k := 0) (by kernel_rfl) (fun R hR => ag) (n := 1000) (sel := S2) (fun v o h => by cases h; rfl) (pre := pre) (F := F) (T := fun x => aa5 (x.1.1)) (fun x Q => alS x Q) hF
def S3 (_ : VK) : Bool := true
def ag6 (x : VK) : OT nn.Y := .br (ak x.1.1) (.ok ⟨AQ, (((bJ x.1.1.toNat).1, ((0 : Int), ())), ())⟩) (.ok ⟨AQ, ((⟨0, 0, 0, 0⟩, ((20 : Int), ())), ())⟩)
theorem ajZ : ac Tryz.prog 66 (nn.aD S3 ag6) := aa4 _ _ fun x oy _ ho => ho
def AP : cv := (nn.aD S3 ag6)
theorem VJ : ac Tryz.prog 66 AP := ajZ
theorem VI : aF AP := az
def Cj : Env := ay 66 AP acr
theorem nV : aQ Tryz.prog Cj := ah VJ HB
theorem Ci : av Cj := ae VI E3
theorem wh : aV Tryz.prog te Cj := aJ follows ar nV Ci
def kI : ao := ⟨[.val true (.prod .elem (.prod .int (.prod .u64 (.prod .u64 .elem)))), .val true .elem], [], true, 0, false⟩
abbrev Vz : Type := (((ab × (Int × (UInt64 × (UInt64 × ab))))) × (ab) × Unit) × (Unit)
def AB : Shape := ⟨53, [(2, .ptr 0 0 0), (3, .ptr 1 0 0), (4, .ptr 2 0 0), (5, .val false .u64), (6, .val false .int)], [(0, .cells [.val false .u64, .val false .u64, .val false .u64, .val false .u64, .val false .int, .val false .u64, .val false .u64, .val false .u64, .val false .u64, .val false .u64, .val false .u64]), (1, .row .u64), (2, .row .u64)], 0, true⟩
abbrev cI : Type := ((Unit) × (Unit) × (Unit) × (UInt64) × (Int) × Unit) × (((UInt64) × (UInt64) × (UInt64) × (UInt64) × (Int) × (UInt64) × (UInt64) × (UInt64) × (UInt64) × (UInt64) × (UInt64) × Unit) × (List (UInt64)) × (List (UInt64)) × Unit)
def sH : Shape := ⟨53, [(4, .ptr 0 0 0), (5, .val false .u64)], [(0, .row .u64)], 0, true⟩
abbrev kH : Type := ((Unit) × (UInt64) × Unit) × ((List (UInt64)) × Unit)
def aaS : SE → Option Shape := jt [(0, sH)] none
def ajS (a5 : UInt64) (a6 : Int) (c0_0 : UInt64) (c0_1 : UInt64) (c0_2 : UInt64) (c0_3 : UInt64) (c0_4 : Int) (c0_5 : UInt64) (c0_6 : UInt64) (c0_7 : UInt64) (c0_8 : UInt64) (c0_9 : UInt64) (c0_10 : UInt64) (c1 : List (UInt64)) (c2 : List (UInt64)) : OT (Sum cI aL) :=
  let z0 : UInt64 := List.getD c1 (Int.toNat a6 + 0) (0 : UInt64)
  (.br (decide ((0 : Int) ≤ a6))
  (gd [inB a6 4, decide (Int.toNat a6 + 0 < List.length c1), o0 ((a5, z0, c0_5, ()), ()), inR (a6 - (1 : Int))] (.ok (.inl (((), ((), ((), (Kr a5 z0 c0_5, (a6 - (1 : Int), ()))))), ((c0_0, (c0_1, (c0_2, (c0_3, (c0_4, (c0_5, (c0_6, (c0_7, (c0_8, (c0_9, (c0_10, ()))))))))))), (c1, (c2, ())))))))
  (.ok (.inr ⟨(.exit 0, sH), (((), (a5, ())), (c2, ()))⟩)))
def AE (s : cI) : OT (Sum cI aL) := ajS (s.1.2.2.2.1) (s.1.2.2.2.2.1) (s.2.1.1) (s.2.1.2.1) (s.2.1.2.2.1) (s.2.1.2.2.2.1) (s.2.1.2.2.2.2.1) (s.2.1.2.2.2.2.2.1) (s.2.1.2.2.2.2.2.2.1) (s.2.1.2.2.2.2.2.2.2.1) (s.2.1.2.2.2.2.2.2.2.2.1) (s.2.1.2.2.2.2.2.2.2.2.2.1) (s.2.1.2.2.2.2.2.2.2.2.2.2.1) (s.2.2.1) (s.2.2.2.1)
theorem ajN (s : cI) (Q : Sum cI aL → Prop) : wps te Cj ax 1000 (bE (al Tryz.f91) 0) (AB.inj s) (cM AB aaS (Q : Sum AB.T aL → Prop)) = (AE s).wpR Q := by kernel_rfl
def GD (g0_0 : cI → kH) (s : cI) : OT aL := (.ok ⟨(.exit 0, sH), g0_0 s⟩)
def AA : Shape := ⟨53, [(2, .ptr 0 0 0), (3, .ptr 1 0 0), (4, .ptr 2 0 0)], [(0, .cells [.val false .u64, .val false .u64, .val false .u64, .val false .u64, .val false .int, .val false .u64, .val false .u64, .val false .u64, .val false .u64, .val false .u64, .val false .u64]), (1, .row .u64), (2, .row .u64)], 0, true⟩
abbrev cH : Type := ((Unit) × (Unit) × (Unit) × Unit) × (((UInt64) × (UInt64) × (UInt64) × (UInt64) × (Int) × (UInt64) × (UInt64) × (UInt64) × (UInt64) × (UInt64) × (UInt64) × Unit) × (List (UInt64)) × (List (UInt64)) × Unit)
def ni : Shape := ⟨53, [(4, .ptr 0 0 0)], [(0, .row .u64)], 0, true⟩
abbrev kG : Type := ((Unit) × Unit) × ((List (UInt64)) × Unit)
def aaR : SE → Option Shape := jt [] (some ni)
def ajR (c0_0 : UInt64) (c0_1 : UInt64) (c0_2 : UInt64) (c0_3 : UInt64) (c0_4 : Int) (c0_5 : UInt64) (c0_6 : UInt64) (c0_7 : UInt64) (c0_8 : UInt64) (c0_9 : UInt64) (c0_10 : UInt64) (c1 : List (UInt64)) (c2 : List (UInt64)) : OT (Sum cH aL) :=
  let z0 : Nat := List.length c1
  let z1 : Bool := decide (4 ≤ z0)
  let z2 : ab × Bool := jV { w0 := List.getD c1 0 0, w1 := List.getD c1 1 0, w2 := List.getD c1 2 0, w3 := List.getD c1 3 0 } { w0 := c0_0, w1 := c0_1, w2 := c0_2, w3 := c0_3 }
  let z3 := z2.fst
  (gd [z1] (.br (z2.snd)
  (gd [z1, decide ((4 / 1 : Nat) + 0 ≤ List.length c2)] (.ok (.inr ⟨(.ret, ni), (((), ()), (lay c2 c1 4 (0 : UInt64), ()))⟩)))
  (gd [decide ((4 / 1 : Nat) + 0 ≤ z0)] (.ok (.inl (((), ((), ((), ()))), ((c0_0, (c0_1, (c0_2, (c0_3, (c0_4, (c0_5, (c0_6, (c0_7, (c0_8, (c0_9, (c0_10, ()))))))))))), (List.set (List.set (List.set (List.set c1 0 z3.w0) 1 z3.w1) 2 z3.w2) 3 z3.w3, (c2, ())))))))))
def AD (s : cH) : OT (Sum cH aL) := ajR (s.2.1.1) (s.2.1.2.1) (s.2.1.2.2.1) (s.2.1.2.2.2.1) (s.2.1.2.2.2.2.1) (s.2.1.2.2.2.2.2.1) (s.2.1.2.2.2.2.2.2.1) (s.2.1.2.2.2.2.2.2.2.1) (s.2.1.2.2.2.2.2.2.2.2.1) (s.2.1.2.2.2.2.2.2.2.2.2.1) (s.2.1.2.2.2.2.2.2.2.2.2.2.1) (s.2.2.1) (s.2.2.2.1)
theorem ajM (s : cH) (Q : Sum cH aL → Prop) : wps te Cj ax 1000 (bE (al Tryz.f91) 2) (AA.inj s) (cM AA aaR (Q : Sum AA.T aL → Prop)) = (AD s).wpR Q := by kernel_rfl
def GC (g2_r : cH → kG) (s : cH) : OT aL := (.ok ⟨(.ret, ni), g2_r s⟩)
def lH : aw := ⟨[.val true .elem], [], false⟩
def SS : SV → Option aw := fun _ => some lH
def AF (ok0 : cI → Bool) (g0_0 : cI → kH) (ok2 : cH → Bool) (g2_r : cH → kG) (a0 : (ab × (Int × (UInt64 × (UInt64 × ab))))) (a1 : ab) : OT kI.Y :=
  let z0 : Bool := !a0.snd.snd.fst == (0 : UInt64)
  let z1 : (UInt64 × UInt64 × UInt64 × UInt64 × Int × UInt64 × UInt64 × UInt64 × UInt64 × UInt64 × UInt64 × PUnit) × List UInt64 × List UInt64 × PUnit := ((a0.fst.w0, a0.fst.w1, a0.fst.w2, a0.fst.w3, a0.snd.fst, a0.snd.snd.fst, a0.snd.snd.snd.fst, a0.snd.snd.snd.snd.w0, a0.snd.snd.snd.snd.w1, a0.snd.snd.snd.snd.w2, a0.snd.snd.snd.snd.w3, ()), [a1.w0, a1.w1, a1.w2, a1.w3], [(0 : UInt64), (0 : UInt64), (0 : UInt64), (0 : UInt64)], ())
  let z2 : (PUnit × PUnit × PUnit × UInt64 × Int × PUnit) × (UInt64 × UInt64 × UInt64 × UInt64 × Int × UInt64 × UInt64 × UInt64 × UInt64 × UInt64 × UInt64 × PUnit) × List UInt64 × List UInt64 × PUnit := (((), (), (), (0 : UInt64), (3 : Int), ()), z1)
  let z3 : (PUnit × UInt64 × PUnit) × List UInt64 × PUnit := g0_0 z2
  let z4 := z3.snd.fst
  let z5 : List UInt64 := List.set (List.set (List.set (List.set z4 0 z3.fst.snd.fst) 1 (0 : UInt64)) 2 (0 : UInt64)) 3 (0 : UInt64)
  let z6 : (PUnit × PUnit × PUnit × PUnit) × (UInt64 × UInt64 × UInt64 × UInt64 × Int × UInt64 × UInt64 × UInt64 × UInt64 × UInt64 × UInt64 × PUnit) × List UInt64 × List UInt64 × PUnit := (((), (), (), ()), z1)
  let z7 := (g2_r z6).snd.fst
  (.br (z0)
  (.br (a1.w1 ||| a1.w2 ||| a1.w3 == (0 : UInt64))
    (gd [z0] (.ok ⟨lH, (({ w0 := a1.w0 % a0.snd.snd.fst, w1 := 0, w2 := 0, w3 := 0 }, ()), ())⟩))
    (gd [ok0 z2, decide ((4 / 1 : Nat) + 0 ≤ List.length z4), decide (4 ≤ List.length z5)] (.ok ⟨lH, (({ w0 := List.getD z5 0 0, w1 := List.getD z5 1 0, w2 := List.getD z5 2 0, w3 := List.getD z5 3 0 }, ()), ())⟩)))
  (gd [ok2 z6, decide (4 ≤ List.length z7)] (.ok ⟨lH, (({ w0 := List.getD z7 0 0, w1 := List.getD z7 1 0, w2 := List.getD z7 2 0, w3 := List.getD z7 3 0 }, ()), ())⟩)))
theorem alM (ok0 : cI → Bool) (g0_0 : cI → kH) (ok2 : cH → Bool) (g2_r : cH → kG) (x : Vz) (Q : kI.Y → Prop) : wpf te Cj (bg 2 (db AA 2 ok2 (GC g2_r)) (bg 0 (db AB 0 ok0 (GD g0_0)) ax)) 1000 Tryz.f91 (kI.inp.inj x).tm (kI.inp.inj x).hp (fnK kI SS Q) (fun _ _ => False) = (AF ok0 g0_0 ok2 g2_r (x.1.1) (x.1.2.1)).wpR Q := by kernel_rfl
theorem aaT (ok0 : cI → Bool) (g0_0 : cI → kH) (ok2 : cH → Bool) (g2_r : cH → kG) (h0 : ∀ s : cI, ok0 s = true → ∃ m e, aq (AE) m s = some e ∧ (GD g0_0 s).run = some e) (h2 : ∀ s : cH, ok2 s = true → ∃ m e, aq (AD) m s = some e ∧ (GC g2_r s).run = some e) (pre : Vz → Bool) (F : Vz → OT kI.Y) (hF : ∀ (x : Vz) oy, pre x = true → (F x).run = some oy → (AF ok0 g0_0 ok2 g2_r (x.1.1) (x.1.2.1)).run = some oy) : ac Tryz.prog 91 (kI.aD pre F) :=
  aB ar nV wh (f := 91) (fn := Tryz.f91) (c := al Tryz.f91) (by kernel_rfl) (by kernel_rfl) (by kernel_rfl) (S := kI) (k := 0) (by kernel_rfl) (fun R hR => (aC (c := (al Tryz.f91)) (by kernel_rfl) (id := 2) (by kernel_rfl) (bo ar nV wh (sh := AA) hR (xs := aaR) (aE (by kernel_rfl) (by kernel_rfl) hR) aS ag (n := 1000) (T := AD) (fun s Q => ajM s Q) (ok := ok2) (f := GC g2_r) h2) (aC (c := (al Tryz.f91)) (by kernel_rfl) (id := 0) (by kernel_rfl) (bo ar nV wh (sh := AB) hR (xs := aaS) (aE (by kernel_rfl) (by kernel_rfl) hR) aS ag (n := 1000) (T := AE) (fun s Q => ajN s Q) (ok := ok0) (f := GD g0_0) h0) ag))) (n := 1000) (sel := SS) (fun v o h => by cases h; rfl) (pre := pre) (F := F) (T := fun x => AF ok0 g0_0 ok2 g2_r (x.1.1) (x.1.2.1)) (fun x Q => alM ok0 g0_0 ok2 g2_r x Q) hF
def mf (n : HK) : Bool := decide (n = bJ 0) || (decide (n = bJ 1) || (decide (n = bJ 2) || decide (n = bJ 3)))
theorem ql {n : HK} (h : mf n = true) : n = bJ 0 ∨ n = bJ 1 ∨ n = bJ 2 ∨ n = bJ 3 := by
  simpa [mf] using h
theorem oD {s : Int} (h : ak s = true) : mf (bJ s.toNat) = true := by
  rcases cz h with rfl | rfl | rfl | rfl <;> decide +kernel
def alf (c : List UInt64) (m : UInt64) : UInt64 := upto (fun k r => Kr r (c.getD (3 - k) 0) m) 0 4
theorem im {m : UInt64} (h : dU m = true) : 0 < m.toNat := by
  rcases cV h with rfl | rfl <;> decide
theorem Rw {a : ab} {m : UInt64} (h : dU m = true) : alf (lst a) m = UInt64.ofNat (a.nat % m.toNat) := by
  have hm := im h
  rw [← UInt64.toNat_inj, UInt64.toNat_ofNat', Nat.mod_eq_of_lt (b := 2 ^ 64) (Nat.lt_trans (Nat.mod_lt _ hm) m.toNat_lt)]
  show (Kr (Kr (Kr (Kr 0 a.w3 m) a.w2 m) a.w1 m) a.w0 m).toNat = _
  rw [lL hm, lL hm, lL hm, lL hm, Ge _ a.w2.toNat, Ge _ a.w1.toNat, Ge _ a.w0.toNat, show (0 : UInt64).toNat = 0 from rfl]
  congr 1
  unfold Sx.ab.nat
  omega
def sG (s : cI) : Bool := decide (s.1.2.2.2.1 = 0 ∧ s.1.2.2.2.2.1 = 3 ∧ s.2.2.1.length = 4) && dU s.2.1.2.2.2.2.2.1
def GB (s : cI) : kH := (((), alf s.2.2.1 s.2.1.2.2.2.2.2.1, ()), (s.2.2.2.1, ()))
theorem ajQ : ∀ s : cI, sG s = true → ∃ m e, aq AE m s = some e ∧ (GD GB s).run = some e := by
  rintro ⟨⟨⟨⟩, ⟨⟩, ⟨⟩, r, i, ⟨⟩⟩, ⟨⟨x0, x1, x2, x3, x4, sm, x6, x7, x8, x9, x10, ⟨⟩⟩, c1, c2, ⟨⟩⟩⟩ h
  simp only [sG, Bool.and_eq_true, decide_eq_true_eq] at h
  obtain ⟨⟨rfl, rfl, hl⟩, hs⟩ := h
  have hm := im hs
  have := (bN (T := AE) (fun k r => ((((), (), (), r, 3 - (k : Int), ()), ((x0, x1, x2, x3, x4, sm, x6, x7, x8, x9, x10, ()), c1, c2, ())) : cI)) (fun k r => Kr r (c1.getD (3 - k) 0) sm)
    (fun r => (⟨(.exit 0, sH), (((), r, ()), (c2, ()))⟩ : aL)) 4 0 (fun _ r => r.toNat < sm.toNat) hm (fun k r hk hr => ⟨?_, ?_⟩) (fun r hr => ?_)).1
  · obtain ⟨m, hm⟩ := this
    exact ⟨m, _, hm, rfl⟩
  · have e1 : (3 - (k : Int)).toNat = 3 - k := by omega
    have e2 : (3 : Int) - (k : Int) - 1 = 3 - ((k + 1 : Nat) : Int) := by omega
    refine (OT.ap (decide_eq_true (by dsimp only; omega))).trans ((aj ?_).trans ?_)
    · simp only [e1, Nat.add_zero, hl, List.all_cons, List.all_nil, Bool.and_true, Bool.and_eq_true]
      refine ⟨bF (by omega), decide_eq_true (by omega), ?_, bz (by omega)⟩
      simp only [o0, Bool.and_eq_true]
      exact ⟨hs, decide_eq_true (UInt64.lt_iff_toNat_lt.2 hr)⟩
    · simp only [OT.jx, e1, e2, Nat.add_zero]
  · rw [lL hm]
    exact Nat.mod_lt _ hm
  · exact OT.au (decide_eq_false (by dsimp only; omega))
def amB (s : cH) : ab := ⟨s.2.1.1, s.2.1.2.1, s.2.1.2.2.1, s.2.1.2.2.2.1⟩
def yl (s : cH) : Bool := decide (s.2.2.1.length = 4 ∧ s.2.2.2.1.length = 4 ∧ 0 < (amB s).nat)
def GA (s : cH) : kG := (((), ()), (lst (ofN ((elemOf s.2.2.1).nat % (amB s).nat)), ()))
theorem Vx {x0 x1 x2 x3 x5 x6 x7 x8 x9 x10 : UInt64} {x4 : Int} {c2 : List UInt64} (hc : c2.length = 4) (hm : 0 < (ab.mk x0 x1 x2 x3).nat) : ∀ (n : Nat) (a : ab), a.nat = n →
    ∃ m, aq AD m (((), (), (), ()), ((x0, x1, x2, x3, x4, x5, x6, x7, x8, x9, x10, ()), lst a, c2, ())) = some ⟨(.ret, ni), (((), ()), (lst (ofN (a.nat % (ab.mk x0 x1 x2 x3).nat)), ()))⟩ := by
  intro n
  induction n using Nat.strongRecOn with
  | _ n ih =>
    intro a hn
    cases hb : Nat.blt a.nat (ab.mk x0 x1 x2 x3).nat
    · have hle : (ab.mk x0 x1 x2 x3).nat ≤ a.nat := by
        rcases Nat.lt_or_ge a.nat (ab.mk x0 x1 x2 x3).nat with h | h
        · have : Nat.blt a.nat (ab.mk x0 x1 x2 x3).nat = true := Nat.ble_eq_true_of_le h
          rw [this] at hb; cases hb
        · exact h
      have hd := k8 hle
      obtain ⟨m, hm2⟩ := ih (a.nat - (ab.mk x0 x1 x2 x3).nat) (by omega) (jV a ⟨x0, x1, x2, x3⟩).1 hd
      rw [hd, ← Nat.mod_eq_sub_mod hle] at hm2
      refine ⟨m + 1, aH ?_ hm2⟩
      refine (aj ?_).trans ((OT.au hb).trans ((aj ?_).trans rfl))
      · rfl
      · rfl
    · have hlt := da hb
      rw [Nat.mod_eq_of_lt hlt, oC]
      refine ⟨1, aI ?_⟩
      refine (aj ?_).trans ((OT.ap hb).trans ((aj ?_).trans ?_))
      · rfl
      · simp only [hc, List.all_cons, List.all_nil, Bool.and_true, Bool.and_eq_true]
        exact ⟨rfl, rfl⟩
      · show some (Sum.inr (⟨(.ret, ni), (((), ()), (lay c2 (lst a) 4 0, ()))⟩ : aL)) = _
        rw [aat hc (cB a)]
theorem ajP : ∀ s : cH, yl s = true → ∃ m e, aq AD m s = some e ∧ (GC GA s).run = some e := by
  rintro ⟨⟨⟨⟩, ⟨⟩, ⟨⟩, ⟨⟩⟩, ⟨⟨x0, x1, x2, x3, x4, x5, x6, x7, x8, x9, x10, ⟨⟩⟩, c1, c2, ⟨⟩⟩⟩ h
  have h' := of_decide_eq_true h
  dsimp only [amB] at h'
  obtain ⟨h1, h2, h3⟩ := h'
  obtain ⟨m, hm⟩ := Vx (x4 := x4) (x5 := x5) (x6 := x6) (x7 := x7) (x8 := x8) (x9 := x9) (x10 := x10) h2 h3 _ (elemOf c1) rfl
  rw [aZ h1] at hm
  exact ⟨m, _, hm, rfl⟩
def fx (x : Vz) : Bool := mf x.1.1
def ag2 (x : Vz) : OT kI.Y := .ok ⟨lH, ((ofN (x.1.2.1.nat % x.1.1.1.nat), ()), ())⟩
theorem mV {n : Nat} (h : n < 18446744073709551616) : ofN n = ⟨UInt64.ofNat n, 0, 0, 0⟩ := by
  refine ZY (k := 0) ?_
  rw [UInt64.toNat_ofNat', Nat.mod_eq_of_lt (by omega)]
  simp
theorem AC {n : HK} {a : ab} {m : UInt64} (h1 : n.1 = ⟨m, 0, 0, 0⟩) (h2 : n.2.2.1 = m) (hs : dU m = true) : (AF sG GB yl GA n a).run = some ⟨lH, ((ofN (a.nat % n.1.nat), ()), ())⟩ := by
  have hm := im hs
  have hn : n.1.nat = m.toNat := by rw [h1]; show m.toNat + _ * (0 + _ * (0 + _ * 0)) = _; omega
  have hz : (!(n.2.2.1 == 0)) = true := by
    rw [h2]
    rcases cV hs with rfl | rfl <;> rfl
  have hlt : a.nat % m.toNat < 18446744073709551616 := Nat.lt_trans (Nat.mod_lt _ hm) m.toNat_lt
  rw [hn, mV hlt]
  unfold AF
  refine (OT.ap hz).trans ?_
  cases hb : (a.w1 ||| a.w2 ||| a.w3 == 0)
  · refine (OT.au rfl).trans ((aj ?_).trans ?_)
    · simp only [List.all_cons, List.all_nil, Bool.and_true, Bool.and_eq_true]
      refine ⟨?_, rfl, rfl⟩
      show (decide _ && dU n.2.2.1) = true
      rw [h2, hs, Bool.and_true]
      exact decide_eq_true ⟨rfl, rfl, rfl⟩
    · show some (⟨lH, ((⟨alf (lst a) n.2.2.1, 0, 0, 0⟩, ()), ())⟩ : kI.Y) = _
      rw [h2, Rw hs]
  · refine (OT.ap rfl).trans ((aj ?_).trans ?_)
    · simp only [hz, List.all_cons, List.all_nil, Bool.and_true]
    · have hw : a.w1 = 0 ∧ a.w2 = 0 ∧ a.w3 = 0 := by
        have : a.w1 ||| a.w2 ||| a.w3 = 0 := by simpa using hb
        simpa [UInt64.or_eq_zero_iff, and_assoc] using this
      have ha : a.nat = a.w0.toNat := by
        unfold Sx.ab.nat
        rw [hw.1, hw.2.1, hw.2.2]
        show _ + _ * (0 + _ * (0 + _ * 0)) = _
        omega
      show some (⟨lH, ((⟨a.w0 % n.2.2.1, 0, 0, 0⟩, ()), ())⟩ : kI.Y) = _
      have e : a.w0 % n.2.2.1 = UInt64.ofNat (a.nat % m.toNat) := by
        rw [h2, ha, ← UInt64.toNat_inj, UInt64.toNat_mod, UInt64.toNat_ofNat']
        exact (Nat.mod_eq_of_lt (by rw [← ha]; omega)).symm
      rw [e]
theorem Eh {n : HK} {a : ab} (h2 : n.2.2.1 = 0) (hs : 0 < n.1.nat) : (AF sG GB yl GA n a).run = some ⟨lH, ((ofN (a.nat % n.1.nat), ()), ())⟩ := by
  unfold AF
  refine (OT.au (by rw [h2]; rfl)).trans ((aj ?_).trans ?_)
  · simp only [List.all_cons, List.all_nil, Bool.and_true, Bool.and_eq_true]
    exact ⟨decide_eq_true ⟨rfl, rfl, hs⟩, rfl⟩
  · rfl
theorem amU : 0 < (bJ 2).1.nat := by decide +kernel
theorem amT : 0 < (bJ 3).1.nat := by decide +kernel
theorem ajO : ac Tryz.prog 91 (kI.aD fx ag2) := aaT sG GB yl GA ajQ ajP _ _ fun x oy hp ho => by
  rw [← ho]
  clear ho
  obtain ⟨⟨n, a, ⟨⟩⟩, ⟨⟩⟩ := x
  have hp' : mf n = true := hp
  rcases ql hp' with rfl | rfl | rfl | rfl
  · exact AC (m := 16513537) rfl rfl rfl
  · exact AC (m := 16521217) rfl rfl rfl
  · exact Eh rfl amU
  · exact Eh rfl amT
def Az : cv := (kI.aD fx ag2)
theorem Vy : ac Tryz.prog 91 Az := ajO
theorem Vw : aF Az := az
def Lo : Env := ay 91 Az Cj
theorem B9 : aQ Tryz.prog Lo := ah Vy nV
theorem Ca : av Lo := ae Vw Ci
theorem WI : aV Tryz.prog te Lo := aJ follows ar B9 Ca
def jg : ao := ⟨[.val true (.prod .elem (.prod .int (.prod .u64 (.prod .u64 .elem)))), .val true .elem, .val true .elem], [], true, 0, false⟩
abbrev Ep : Type := (((ab × (Int × (UInt64 × (UInt64 × ab))))) × (ab) × (ab) × Unit) × (Unit)
def GN : aw := ⟨[.val true .elem], [], false⟩
def Ki : SV → Option aw := fun _ => some GN
def Oa (a0 : (ab × (Int × (UInt64 × (UInt64 × ab))))) (a1 : ab) (a2 : ab) : OT jg.Y :=
  let z0 : Nat := ab.nat a0.fst
  let z1 : ab := (rk (ofN (ab.nat a1 % z0)) (ofN (ab.nat a2 % z0))).fst
  (gd [fx ((a0, a1, ()), ()), fx ((a0, a2, ()), ()), fx ((a0, z1, ()), ())] (.ok ⟨GN, ((ofN (ab.nat z1 % z0), ()), ())⟩))
theorem aj8 (x : Ep) (Q : jg.Y → Prop) : wpf te Lo ax 1000 Tryz.f78 (jg.inp.inj x).tm (jg.inp.inj x).hp (fnK jg Ki Q) (fun _ _ => False) = (Oa (x.1.1) (x.1.2.1) (x.1.2.2.1)).wpR Q := by kernel_rfl
theorem VZ (pre : Ep → Bool) (F : Ep → OT jg.Y) (hF : ∀ (x : Ep) oy, pre x = true → (F x).run = some oy → (Oa (x.1.1) (x.1.2.1) (x.1.2.2.1)).run = some oy) : ac Tryz.prog 78 (jg.aD pre F) :=
  aB ar B9 WI (f := 78) (fn := Tryz.f78) (c := al Tryz.f78) (by kernel_rfl) (by kernel_rfl) (by kernel_rfl) (S := jg) (k := 0) (by kernel_rfl) (fun R hR => ag) (n := 1000) (sel := Ki) (fun v o h => by cases h; rfl) (pre := pre) (F := F) (T := fun x => Oa (x.1.1) (x.1.2.1) (x.1.2.2.1)) (fun x Q => aj8 x Q) hF
theorem sf {n : HK} (h : mf n = true) : 0 < n.1.nat ∧ n.1.nat < 57896044618658097711785492504343953926634992332820282019728792003956564819968 := by
  rcases ql h with rfl | rfl | rfl | rfl
  · exact ⟨by decide +kernel, by decide +kernel⟩
  · exact ⟨by decide +kernel, by decide +kernel⟩
  · exact ⟨by decide +kernel, by decide +kernel⟩
  · exact ⟨by decide +kernel, by decide +kernel⟩
def pS (s : Int) : Nat := (bJ s.toNat).1.nat
theorem mT {s : Int} (h : ak s = true) : 0 < pS s ∧ pS s < 57896044618658097711785492504343953926634992332820282019728792003956564819968 := sf (oD h)
def wR (p : Nat) (a b : ab) : ab := ofN ((a.nat + b.nat) % p)
def Jw (p : Nat) (a : ab) : ab := ofN ((p - a.nat % p) % p)
def bG (p : Nat) (a b : ab) : ab := ofN (a.nat * b.nat % p)
theorem eh {p n : Nat} (h : 0 < p ∧ p < 57896044618658097711785492504343953926634992332820282019728792003956564819968) : (ofN (n % p)).nat = n % p := by
  have := Nat.mod_lt n h.1
  exact iO (by omega)
theorem acj {p : Nat} (h : 0 < p ∧ p < 57896044618658097711785492504343953926634992332820282019728792003956564819968) (a b : ab) : ofN ((rk (ofN (a.nat % p)) (ofN (b.nat % p))).1.nat % p) = wR p a b := by
  have ha := Nat.mod_lt a.nat h.1
  have hb := Nat.mod_lt b.nat h.1
  have e : (rk (ofN (a.nat % p)) (ofN (b.nat % p))).1.nat = a.nat % p + b.nat % p := by
    show (ofN _).nat = _
    rw [eh h, eh h]
    exact iO (by omega)
  unfold wR
  rw [e, ← Nat.add_mod]
def A5 (x : Ep) : Bool := mf x.1.1
def Ob (x : Ep) : OT jg.Y := .ok ⟨GN, ((wR x.1.1.1.nat x.1.2.1 x.1.2.2.1, ()), ())⟩
theorem af2 : ac Tryz.prog 78 (jg.aD A5 Ob) := VZ _ _ fun x oy hp ho => by
  rw [← ho]
  clear ho
  obtain ⟨⟨n, a, b, ⟨⟩⟩, ⟨⟩⟩ := x
  have hp' : mf n = true := hp
  refine (aj ?_).trans ?_
  · simp only [List.all_cons, List.all_nil, Bool.and_true, Bool.and_eq_true]
    exact ⟨hp', hp', hp'⟩
  · simp only [Ob, acj (sf hp')]
def vv : cv := (jg.aD A5 Ob)
theorem N9 : ac Tryz.prog 78 vv := af2
theorem N8 : aF vv := az
def Cr : Env := ay 78 vv Lo
theorem wj : aQ Tryz.prog Cr := ah N9 B9
theorem xz : av Cr := ae N8 Ca
theorem Pb : aV Tryz.prog te Cr := aJ follows ar wj xz
def jd : ao := ⟨[.val true (.prod .elem (.prod .int (.prod .u64 (.prod .u64 .elem)))), .val true .elem], [], true, 0, false⟩
abbrev Ei : Type := (((ab × (Int × (UInt64 × (UInt64 × ab))))) × (ab) × Unit) × (Unit)
def GG : aw := ⟨[.val true .elem], [], false⟩
def J8 : SV → Option aw := fun _ => some GG
def NW (a0 : (ab × (Int × (UInt64 × (UInt64 × ab))))) (a1 : ab) : OT jd.Y :=
  let z0 : Nat := ab.nat a0.fst
  let z1 : ab := (jV a0.fst (ofN (ab.nat a1 % z0))).fst
  (gd [fx ((a0, a1, ()), ()), fx ((a0, z1, ()), ())] (.ok ⟨GG, ((ofN (ab.nat z1 % z0), ()), ())⟩))
theorem ajW (x : Ei) (Q : jd.Y → Prop) : wpf te Cr ax 1000 Tryz.f139 (jd.inp.inj x).tm (jd.inp.inj x).hp (fnK jd J8 Q) (fun _ _ => False) = (NW (x.1.1) (x.1.2.1)).wpR Q := by kernel_rfl
theorem VD (pre : Ei → Bool) (F : Ei → OT jd.Y) (hF : ∀ (x : Ei) oy, pre x = true → (F x).run = some oy → (NW (x.1.1) (x.1.2.1)).run = some oy) : ac Tryz.prog 139 (jd.aD pre F) :=
  aB ar wj Pb (f := 139) (fn := Tryz.f139) (c := al Tryz.f139) (by kernel_rfl) (by kernel_rfl) (by kernel_rfl) (S := jd) (k := 0) (by kernel_rfl) (fun R hR => ag) (n := 1000) (sel := J8) (fun v o h => by cases h; rfl) (pre := pre) (F := F) (T := fun x => NW (x.1.1) (x.1.2.1)) (fun x Q => ajW x Q) hF
theorem ajq {m : ab} (h : 0 < m.nat ∧ m.nat < 57896044618658097711785492504343953926634992332820282019728792003956564819968) (a : ab) : ofN ((jV m (ofN (a.nat % m.nat))).1.nat % m.nat) = Jw m.nat a := by
  have ha := Nat.mod_lt a.nat h.1
  have e := eh (n := a.nat) h
  have e2 : (jV m (ofN (a.nat % m.nat))).1.nat = m.nat - a.nat % m.nat := by
    rw [k8 (by rw [e]; omega), e]
  unfold Jw
  rw [e2]
def AL (x : Ei) : Bool := mf x.1.1
def NX (x : Ei) : OT jd.Y := .ok ⟨GG, ((Jw x.1.1.1.nat x.1.2.1, ()), ())⟩
theorem afW : ac Tryz.prog 139 (jd.aD AL NX) := VD _ _ fun x oy hp ho => by
  rw [← ho]
  clear ho
  obtain ⟨⟨n, a, ⟨⟩⟩, ⟨⟩⟩ := x
  have hp' : mf n = true := hp
  refine (aj ?_).trans ?_
  · simp only [List.all_cons, List.all_nil, Bool.and_true, Bool.and_eq_true]
    exact ⟨hp', hp'⟩
  · simp only [NX, ajq (sf hp')]
def vr : cv := (jd.aD AL NX)
theorem NV : ac Tryz.prog 139 vr := afW
theorem NU : aF vr := az
def Cd : Env := ay 139 vr Cr
theorem we : aQ Tryz.prog Cd := ah NV wj
theorem xv : av Cd := ae NU xz
theorem O9 : aV Tryz.prog te Cd := aJ follows ar we xv
def nv : ao := ⟨[.val false .int, .val true .elem, .val true .elem], [], true, 0, false⟩
abbrev VY : Type := ((Int) × (ab) × (ab) × Unit) × (Unit)
def A4 : aw := ⟨[.val true .elem], [], false⟩
def Ta : SV → Option aw := fun _ => some A4
def abg (a0 : Int) (a1 : ab) (a2 : ab) : OT nv.Y :=
  let z0 : ab × Int × UInt64 × UInt64 × ab := bJ (Int.toNat a0)
  (.br (ak a0)
  (gd [A5 ((z0, a1, a2, ()), ())] (.ok ⟨A4, ((wR (ab.nat z0.fst) a1 a2, ()), ())⟩))
  (.ok ⟨A4, (({ w0 := 0, w1 := 0, w2 := 0, w3 := 0 }, ()), ())⟩))
theorem alV (x : VY) (Q : nv.Y → Prop) : wpf te Cd ax 1000 Tryz.f43 (nv.inp.inj x).tm (nv.inp.inj x).hp (fnK nv Ta Q) (fun _ _ => False) = (abg (x.1.1) (x.1.2.1) (x.1.2.2.1)).wpR Q := by kernel_rfl
theorem abf (pre : VY → Bool) (F : VY → OT nv.Y) (hF : ∀ (x : VY) oy, pre x = true → (F x).run = some oy → (abg (x.1.1) (x.1.2.1) (x.1.2.2.1)).run = some oy) : ac Tryz.prog 43 (nv.aD pre F) :=
  aB ar we O9 (f := 43) (fn := Tryz.f43) (c := al Tryz.f43) (by kernel_rfl) (by kernel_rfl) (by kernel_rfl) (S := nv) (k := 0) (by kernel_rfl) (fun R hR => ag) (n := 1000) (sel := Ta) (fun v o h => by cases h; rfl) (pre := pre) (F := F) (T := fun x => abg (x.1.1) (x.1.2.1) (x.1.2.2.1)) (fun x Q => alV x Q) hF
def Tb (_ : VY) : Bool := true
def ag9 (x : VY) : OT nv.Y := .br (ak x.1.1) (.ok ⟨A4, ((wR (pS x.1.1) x.1.2.1 x.1.2.2.1, ()), ())⟩) (.ok ⟨A4, ((⟨0, 0, 0, 0⟩, ()), ())⟩)
theorem aj7 : ac Tryz.prog 43 (nv.aD Tb ag9) := abf _ _ fun x oy hp ho => by
  rw [← ho]
  clear ho
  obtain ⟨⟨s, a, b, ⟨⟩⟩, ⟨⟩⟩ := x
  cases hs : ak s
  · exact (OT.au hs).trans (OT.au (b := ak s) hs).symm
  · refine (OT.ap hs).trans ((aj ?_).trans (OT.ap (b := ak s) hs).symm)
    simp only [List.all_cons, List.all_nil, Bool.and_true]
    exact oD hs
def A3 : cv := (nv.aD Tb ag9)
theorem VX : ac Tryz.prog 43 A3 := aj7
theorem VW : aF A3 := az
def Lt : Env := ay 43 A3 Cd
theorem Cp : aQ Tryz.prog Lt := ah VX we
theorem Cq : av Lt := ae VW xv
theorem WN : aV Tryz.prog te Lt := aJ follows ar Cp Cq
def nj : ao := ⟨[.val false .int, .val true .elem], [], true, 0, false⟩
abbrev VC : Type := ((Int) × (ab) × Unit) × (Unit)
def AK : aw := ⟨[.val true .elem], [], false⟩
def SX : SV → Option aw := fun _ => some AK
def aaZ (a0 : Int) (a1 : ab) : OT nj.Y :=
  let z0 : ab × Int × UInt64 × UInt64 × ab := bJ (Int.toNat a0)
  (.br (ak a0)
  (gd [AL ((z0, a1, ()), ())] (.ok ⟨AK, ((Jw (ab.nat z0.fst) a1, ()), ())⟩))
  (.ok ⟨AK, (({ w0 := 0, w1 := 0, w2 := 0, w3 := 0 }, ()), ())⟩))
theorem alP (x : VC) (Q : nj.Y → Prop) : wpf te Lt ax 1000 Tryz.f98 (nj.inp.inj x).tm (nj.inp.inj x).hp (fnK nj SX Q) (fun _ _ => False) = (aaZ (x.1.1) (x.1.2.1)).wpR Q := by kernel_rfl
theorem aaY (pre : VC → Bool) (F : VC → OT nj.Y) (hF : ∀ (x : VC) oy, pre x = true → (F x).run = some oy → (aaZ (x.1.1) (x.1.2.1)).run = some oy) : ac Tryz.prog 98 (nj.aD pre F) :=
  aB ar Cp WN (f := 98) (fn := Tryz.f98) (c := al Tryz.f98) (by kernel_rfl) (by kernel_rfl) (by kernel_rfl) (S := nj) (k := 0) (by kernel_rfl) (fun R hR => ag) (n := 1000) (sel := SX) (fun v o h => by cases h; rfl) (pre := pre) (F := F) (T := fun x => aaZ (x.1.1) (x.1.2.1)) (fun x Q => alP x Q) hF
def SY (_ : VC) : Bool := true
def ag3 (x : VC) : OT nj.Y := .br (ak x.1.1) (.ok ⟨AK, ((Jw (pS x.1.1) x.1.2.1, ()), ())⟩) (.ok ⟨AK, ((⟨0, 0, 0, 0⟩, ()), ())⟩)
theorem ajV : ac Tryz.prog 98 (nj.aD SY ag3) := aaY _ _ fun x oy hp ho => by
  rw [← ho]
  clear ho
  obtain ⟨⟨s, a, ⟨⟩⟩, ⟨⟩⟩ := x
  cases hs : ak s
  · exact (OT.au hs).trans (OT.au (b := ak s) hs).symm
  · refine (OT.ap hs).trans ((aj ?_).trans (OT.ap (b := ak s) hs).symm)
    simp only [List.all_cons, List.all_nil, Bool.and_true]
    exact oD hs
def AJ : cv := (nj.aD SY ag3)
theorem VB : ac Tryz.prog 98 AJ := ajV
theorem VA : aF AJ := az
def Lp : Env := ay 98 AJ Lt
theorem Cb : aQ Tryz.prog Lp := ah VB Cp
theorem Cc : av Lp := ae VA Cq
theorem WJ : aV Tryz.prog te Lp := aJ follows ar Cb Cc
def na : ao := ⟨[.val false .int, .val true .elem, .val true .elem], [], true, 0, false⟩
abbrev Vs : Type := ((Int) × (ab) × (ab) × Unit) × (Unit)
def qx : aw := ⟨[.val true .elem], [], false⟩
def SO : SV → Option aw := fun _ => some qx
def aaP (a0 : Int) (a1 : ab) (a2 : ab) : OT na.Y :=
  let z0 : Bool := ak a0
  let z1 : Nat := pS a0
  let z2 : ab := { w0 := 0, w1 := 0, w2 := 0, w3 := 0 }
  (.br (z0)
  (.br (z0)
    (.ok ⟨qx, ((wR z1 a1 (Jw z1 a2), ()), ())⟩)
    (.ok ⟨qx, ((z2, ()), ())⟩))
  (.br (z0)
    (.ok ⟨qx, ((wR z1 a1 z2, ()), ())⟩)
    (.ok ⟨qx, ((z2, ()), ())⟩)))
theorem alL (x : Vs) (Q : na.Y → Prop) : wpf te Lp ax 1000 Tryz.f152 (na.inp.inj x).tm (na.inp.inj x).hp (fnK na SO Q) (fun _ _ => False) = (aaP (x.1.1) (x.1.2.1) (x.1.2.2.1)).wpR Q := by kernel_rfl
theorem aaO (pre : Vs → Bool) (F : Vs → OT na.Y) (hF : ∀ (x : Vs) oy, pre x = true → (F x).run = some oy → (aaP (x.1.1) (x.1.2.1) (x.1.2.2.1)).run = some oy) : ac Tryz.prog 152 (na.aD pre F) :=
  aB ar Cb WJ (f := 152) (fn := Tryz.f152) (c := al Tryz.f152) (by kernel_rfl) (by kernel_rfl) (by kernel_rfl) (S := na) (k := 0) (by kernel_rfl) (fun R hR => ag) (n := 1000) (sel := SO) (fun v o h => by cases h; rfl) (pre := pre) (F := F) (T := fun x => aaP (x.1.1) (x.1.2.1) (x.1.2.2.1)) (fun x Q => alL x Q) hF
def jv (p : Nat) (a b : ab) : ab := wR p a (Jw p b)
def SP (_ : Vs) : Bool := true
def ag1 (x : Vs) : OT na.Y := .br (ak x.1.1) (.ok ⟨qx, ((jv (pS x.1.1) x.1.2.1 x.1.2.2.1, ()), ())⟩) (.ok ⟨qx, ((⟨0, 0, 0, 0⟩, ()), ())⟩)
theorem ajK : ac Tryz.prog 152 (na.aD SP ag1) := aaO _ _ fun x oy hp ho => by
  rw [← ho]
  clear ho
  obtain ⟨⟨s, a, b, ⟨⟩⟩, ⟨⟩⟩ := x
  cases hs : ak s
  · exact (OT.au hs).trans ((OT.au hs).trans (OT.au (b := ak s) hs).symm)
  · exact (OT.ap hs).trans ((OT.ap hs).trans (OT.ap (b := ak s) hs).symm)
def Aw : cv := (na.aD SP ag1)
theorem Vr : ac Tryz.prog 152 Aw := ajK
theorem Vq : aF Aw := az
def E1 : Env := ay 152 Aw Lp
theorem tE : aQ Tryz.prog E1 := ah Vr Cb
theorem B7 : av E1 := ae Vq Cc
theorem EZ : aV Tryz.prog te E1 := aJ follows ar tE B7
end Go.Proofs.YtohjofabochgfaaGreat
