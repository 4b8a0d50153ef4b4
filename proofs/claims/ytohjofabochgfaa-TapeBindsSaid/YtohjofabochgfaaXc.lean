/- A symbolic machine for Go code over plain data, and functions of the program as it shows them. No statement is proved in this file. -/
import Derived.ProofKit
import Derived.Below
import Derived.OpenShut
import Derived.SizedLaws
import Derived.WalkKit
import Derived.ChangeOld
import Derived.Test.YtohjofabochgfaaProg
import Derived.KernelRfl
import Derived.Laws.Externs
import Derived.Lib.Mul64
import Derived.Test.YtohjofabochgfaaXb
set_option linter.unusedSimpArgs false
set_option linter.unusedVariables false
set_option linter.unusedSectionVars false

namespace Go.Proofs.Ytohjofabochgfaa
namespace Sx
open Go
theorem gO : ∀ {l : List (Nat × Sh)} {x : SlT l} {tm : List SV}, (dl l x tm).length = tm.length
  | [], _, _ => rfl
  | c :: r, x, tm => by simp only [dl, gO, List.length_set]
theorem nB : ∀ {rs : List Sh} {i j : Nat} {x : SlT (indexed j rs)} {tm : List SV}, i < j → (dl (indexed j rs) x tm)[i]? = tm[i]?
  | [], _, _, _, _, _ => rfl
  | s :: r, i, j, x, tm, h => by
    simp only [indexed, dl]
    refine (nB (rs := r) (i := i) (j := j + 1) (x := x.2) (by omega)).trans ?_
    rw [List.getElem?_set_ne (by omega)]
theorem kH {N R : Ctx} {ν : Nm} {lists : Bool} (hr : Ex N R ν lists) : ∀ {rs : List Sh} (_ : lists = true ∨ rs.any Sh.bW = false) {i : Nat} {y : SlT (indexed i rs)} {tm : List SV} {us : List Value}, tm.length = i + rs.length →
    SV.bg N (dl (indexed i rs) y tm) us → SV.bg R (ak.emit.go ν i rs y) (us.drop i)
  | [], _, i, y, tm, us, hl, h => by
    have := SV.aF h
    simp only [indexed, dl] at this
    simp only [List.length_nil] at hl
    simp only [ak.emit.go]
    rw [List.drop_eq_nil_of_le (by omega)]
    exact mn
  | s :: r, hl', i, y, tm, us, hl, h => by
    have h1 : lists = true ∨ s.bW = false := hl'.imp_right fun e => by simp only [List.any_cons, Bool.or_eq_false_iff] at e; exact e.1
    have h2 : lists = true ∨ r.any Sh.bW = false := hl'.imp_right fun e => by simp only [List.any_cons, Bool.or_eq_false_iff] at e; exact e.2
    simp only [List.length_cons] at hl
    have hlen := SV.aF h
    rw [gO] at hlen
    have hi : i < us.length := by omega
    have ih := kH hr h2 (i := i + 1) (y := y.2) (tm := tm.set i (kW s y.1)) (us := us) (by rw [List.length_set]; omega) h
    have hi2 : i < (dl (indexed i (s :: r)) y tm).length := by rw [gO]; omega
    have hv := SV.iu h i hi2 hi
    have hg : (dl (indexed i (s :: r)) y tm)[i] = kW s y.1 := by
      have : (dl (indexed i (s :: r)) y tm)[i]? = some (kW s y.1) := by
        simp only [indexed, dl]
        refine (nB (rs := r) (i := i) (j := i + 1) (x := y.2) (by omega)).trans ?_
        rw [List.getElem?_set_self (by omega)]
      rw [List.getElem?_eq_getElem hi2] at this
      exact Option.some.inj this
    rw [hg] at hv
    simp only [ak.emit.go]
    rw [List.drop_eq_getElem_cons hi]
    simp only [SV.bg]
    exact ⟨_, _, rfl, Fu hr h1 hv, ih⟩
theorem ye {ν : Nm} : ∀ {rs : List Sh} {i : Nat} {y : SlT (indexed i rs)}, (ak.emit.go ν i rs y).length = rs.length
  | [], _, _ => rfl
  | s :: r, i, y => by simp only [ak.emit.go, List.length_cons, ye]
theorem YP {R : Ctx} {n : Nat} {x : SV} {v : Value} {l : List SV} (hv : SV.rel R x v) (hn : (TO n x).length = n) (hl : l.length = n) : ∃ us, SV.bg R (TO n x) us ∧ ∀ R', SV.bg R' l us → SV.rel R' (oneOf l) v := by
  unfold TO at hn ⊢
  cases hb : Nat.beq n 1
  · rw [hb] at hn
    simp only [cond_false] at hn ⊢
    have hne : n ≠ 1 := fun e => by subst e; cases hb
    cases x <;> simp only [List.length_replicate] at hn ⊢ <;> try omega
    case tup q =>
      simp only [SV.rel] at hv
      obtain ⟨vs, rfl, h1⟩ := hv
      refine ⟨vs, h1, fun R' h2 => ?_⟩
      cases l with
      | nil => simp only [oneOf, SV.rel]; exact ⟨vs, rfl, h2⟩
      | cons a l =>
        cases l with
        | nil => simp at hl; omega
        | cons b l => simp only [oneOf, SV.rel]; exact ⟨vs, rfl, h2⟩
  · have := Nat.eq_of_beq_eq_true hb
    subst this
    simp only [cond_true]
    refine ⟨[v], aJ hv, fun R' h2 => ?_⟩
    cases l with
    | nil => simp at hl
    | cons a l =>
      cases l with
      | nil =>
        simp only [oneOf]
        obtain ⟨v', e, h⟩ := bI h2
        cases e
        exact h
      | cons b l => simp at hl
section
variable {P : Program} {te : TE} {Φ : Env} (hte : iS P te) (hΦ : aN P Φ) (hany : aY P te Φ)
theorem Vy {R N1 : Ctx} {w w' : World} {S : ak} {args : List SV} {x : S.T} {k d : Nat} (hm : ci R w) (hx : S.inp.prj ⟨args, R.hp⟩ = some x)
    (hk : S.chunks.all (fun c => Nat.blt c.1 k && !c.2.pR) = true)
    (h1 : (R.named (R.uh (S.inp.bd ⟨args, R.hp⟩) S.bf w) (R.zU (S.inp.bd ⟨args, R.hp⟩) S.bf w) (S.inp.bd ⟨args, R.hp⟩) (cM S.chunks x.2)).Ext N1) (hm1 : ci N1 w') {o : aq} {y : (o.shape S.fixed).T} {pan : Bool} {v : SV} {u : Value}
    (hv : SV.rel N1 v u) (hy : o.is y pan v N1.hp) (hend : S.ol (S.inp.bd ⟨args, R.hp⟩) R.hp (fresh R.hp d) o = true) :
    ∃ R', cn R R' w' (cf (S.inp.bd ⟨args, R.hp⟩) R.hp S.fixed S.chunks ++ gq (S.nm (S.inp.bd ⟨args, R.hp⟩) R.hp (fresh R.hp d)) o.chunks y.2) ∧
      SV.rel R' (oneOf (ak.emit.indexedN (S.nm (S.inp.bd ⟨args, R.hp⟩) R.hp (fresh R.hp d)) o.rs y.1)) u := by
  obtain ⟨_, hy⟩ := hy
  unfold Shape.prj at hx
  dsimp only at hx
  generalize hbd : S.inp.bd ⟨args, R.hp⟩ = bd at *
  cases hb : S.inp.zM ⟨args, R.hp⟩ bd && Nat.beq args.length S.inp.n
  · rw [hb] at hx; cases hx
  · rw [hb] at hx
    rw [Bool.and_eq_true] at hb
    obtain ⟨hx1, hx2⟩ := aZ hx
    have hy' := hy
    unfold Shape.prj at hy'
    dsimp only at hy'
    cases hb2 : (o.shape S.fixed).zM ⟨TO o.rs.length v, N1.hp⟩ ((o.shape S.fixed).bd ⟨TO o.rs.length v, N1.hp⟩) && Nat.beq (TO o.rs.length v).length (o.shape S.fixed).n
    · rw [hb2] at hy'; cases hy'
    · rw [hb2] at hy'
      rw [Bool.and_eq_true] at hb2
      obtain ⟨hy1, hy2⟩ := aZ hy'
      have hlen : (TO o.rs.length v).length = o.rs.length := Nat.eq_of_beq_eq_true hb2.2
      obtain ⟨us, hus, hback⟩ := YP (l := ak.emit.indexedN (S.nm bd R.hp (fresh R.hp d)) o.rs y.1) hv hlen ye
      have hsm : Small ((R.named (R.uh bd S.bf w) (R.zU bd S.bf w) bd (cM S.chunks x.2)).afv S.fixed) (o.shape S.fixed).fixed := fun c ch hc => by
        replace hc : cond (Nat.blt c S.fixed) (cM S.chunks x.2 c) none = some ch := hc
        cases hq : Nat.blt c S.fixed
        · rw [hq] at hc; cases hc
        · rw [hq] at hc
          refine ⟨cK hq, ?_⟩
          obtain ⟨s, y', g1, g2, g3⟩ := cR hx2 (hc : cM S.chunks x.2 c = some ch)
          have := (List.all_eq_true.1 hk) _ g1
          simp only [Bool.and_eq_true, Bool.not_eq_true'] at this
          rw [g3]
          cases s <;> first | rfl | (cases this.2; done)
      have hext : ((R.named (R.uh bd S.bf w) (R.zU bd S.bf w) bd (cM S.chunks x.2)).afv S.fixed).Ext N1 := ⟨h1.F, h1.U, fun c ch hc => by
        replace hc : cond (Nat.blt c S.fixed) (cM S.chunks x.2 c) none = some ch := hc
        cases hq : Nat.blt c S.fixed
        · rw [hq] at hc; cases hc
        · rw [hq] at hc
          exact h1.ch c ch hc⟩
      obtain ⟨N2, g1, g2⟩ := Shape.afX (s := o.shape S.fixed) (a := { tmps := us.toArray, defers := [] }) hsm hext ⟨rfl, hm1, hus, rfl⟩ hy
      have hd2 : distinct (o.chunks.map (·.1)) = true := by
        have := hb2.1
        unfold Shape.zM at this
        simp only [Bool.and_eq_true] at this
        exact this.1.1.1
      have H : o0 R w w' S args bd x.2 N2 o y.2 (fresh R.hp d) := ⟨hm, hb.1, hx2, g1, g2.mem, g2.hp, ⟨_, _, _, hy2⟩, hd2, hend⟩
      refine ⟨R.cG bd w S N2 o y.2 (fresh R.hp d), Q5 H, hback _ ?_⟩
      have ht := g2.tm
      have := kH (TQ H) (rs := o.rs) ?_ (i := 0) (y := y.1) (tm := List.replicate o.rs.length .bu) (us := us) (by simp) ht
      · exact this
      · rcases j7 H with h | h
        · exact .inl (by rw [h]; rfl)
        · exact .inr h.1
include hte hΦ hany
theorem ZA {f : FuncId} {fn : Func} {c : Code} (hf : P.funcs[f]? = some fn) (hb : fn.body = some c) (hname : (fn.name == "runtime.NumGoroutine") = false) {S : ak} {k : Nat} (hk : S.chunks.all (fun c => Nat.blt c.1 k && !c.2.pR) = true) {Λ : Lam}
    (hΛ : ∀ R, Small R k → tk P R Λ c) {n : Nat} {pre : S.T → Bool} {F : S.T → OT S.Y}
    (h : ∀ x oy, pre x = true → (F x).run = some oy → ∃ K Kp, wpf te Φ Λ n fn (S.inp.inj x).tm (S.inp.inj x).hp K Kp ∧ (∀ v hp, K v hp → oy.1.is oy.2 false v hp) ∧ ∀ v hp, Kp v hp → oy.1.is oy.2 true v hp) : ab P f (S.aE pre F) := by
  refine ⟨?_⟩
  intro R w d args vs out hm hr hrun
  refine .inl ⟨fn, hf, hname, by rw [hb]; rfl, ?_⟩
  simp only [ak.aE] at hrun
  split at hrun
  · cases hrun
  · rename_i x hx
    obtain ⟨hpre, h2⟩ := OT.au hrun
    obtain ⟨oy, h3, h4⟩ := OT.run_bind h2
    unfold ak.emit at h4
    dsimp only at h4
    obtain ⟨hend, h5⟩ := OT.au h4
    obtain ⟨K, Kp, hwp, hK1, hK2⟩ := h x oy hpre h3
    have hx' := hx
    unfold Shape.prj at hx'
    dsimp only at hx'
    cases hbo : S.inp.zM ⟨args, R.hp⟩ (S.inp.bd ⟨args, R.hp⟩) && Nat.beq args.length S.inp.n
    · rw [hbo] at hx'; cases hx'
    · rw [hbo] at hx'
      rw [Bool.and_eq_true] at hbo
      obtain ⟨hx1, hx2⟩ := aZ hx'
      have hlen : args.length = S.inp.n := Nat.eq_of_beq_eq_true hbo.2
      have hN := Dd (s := S.inp) (st := ⟨args, R.hp⟩) (F' := R.uh (S.inp.bd ⟨args, R.hp⟩) S.bf w) (U' := R.zU (S.inp.bd ⟨args, R.hp⟩) S.bf w) hbo.1 hx2 rfl hm (Gp hm) (Dl hm) UU (Gn hm) Gm aaK hm.env
      have hargs : SV.bg (R.named (R.uh (S.inp.bd ⟨args, R.hp⟩) S.bf w) (R.zU (S.inp.bd ⟨args, R.hp⟩) S.bf w) (S.inp.bd ⟨args, R.hp⟩) (cM S.chunks x.2)) (S.inp.inj x).tm vs :=
        iy (s := S.inp) (st := ⟨args, R.hp⟩) hbo.1 hx2 rfl hm (Gp hm) (Dl hm) hr hx1 (SV.r7 (by rw [List.length_replicate, ← hlen]; exact SV.aF hr) fun i hi hi' => by simp [SV.rel])
      have hsm : Small (R.named (R.uh (S.inp.bd ⟨args, R.hp⟩) S.bf w) (R.zU (S.inp.bd ⟨args, R.hp⟩) S.bf w) (S.inp.bd ⟨args, R.hp⟩) (cM S.chunks x.2)) k := fun c ch hc => by
        obtain ⟨s, y', g1, g2, g3⟩ := cR hx2 (hc : cM S.chunks x.2 c = some ch)
        have := (List.all_eq_true.1 hk) _ g1
        simp only [Bool.and_eq_true, Bool.not_eq_true'] at this
        refine ⟨cK this.1, ?_⟩
        rw [g3]
        cases s <;> first | rfl | (cases this.2; done)
      refine (RP hte hΦ hany hf hb (hΛ _ hsm) hN hargs hwp).mono fun en w' hp => ?_
      rcases hp with ⟨y, v, R₁, rfl, hx1, hm1, hv, hy⟩ | ⟨y, v, R₁, rfl, hx1, hm1, hv, hy⟩
      · replace hy := hK1 _ _ hy
        obtain ⟨R', a1, a2⟩ := Vy hm hx hk hx1 hm1 hv hy hend
        rw [hy.1] at h5
        cases h5
        exact ⟨v, R', rfl, a1, a2⟩
      · replace hy := hK2 _ _ hy
        obtain ⟨R', a1, a2⟩ := Vy hm hx hk hx1 hm1 hv hy hend
        rw [hy.1] at h5
        cases h5
        exact ⟨v, R', rfl, a1, a2⟩
end
end Sx
end Go.Proofs.Ytohjofabochgfaa

namespace Go.Proofs.Ytohjofabochgfaa
namespace Sx
open Go
theorem H2 {b : Bd} {n m : Nat} {o o' : Option Nat} (h : cm b m = some o') : cm (Lo b n o) m = some o' := by
  unfold Lo
  split
  · exact h
  · rename_i hn
    simp only [cm]
    cases hb : Nat.beq n m
    · exact h
    · have := Nat.eq_of_beq_eq_true hb
      subst this
      rw [h] at hn
      cases hn
theorem uu : ∀ {ns : List Nat} {l : List SV} {b : Bd} {m : Nat} {o : Option Nat}, cm b m = some o → cm (vA ns l b) m = some o
  | [], _, _, _, _, h => h
  | n :: ns, [], _, _, _, h => h
  | n :: ns, y :: r, b, m, o, h => by
    cases y <;> simp only [vA] <;> first | exact h | exact uu (H2 h)
theorem Ll {s : Sh} {x : SV} {b : Bd} {m : Nat} {o : Option Nat} (h : cm b m = some o) : cm (El s x b) m = some o := by
  unfold El
  split <;> first | exact h | exact H2 h | exact uu h
theorem kh : ∀ {l : List Sh} {cs : List SV} {b : Bd} {m : Nat} {o : Option Nat}, cm b m = some o → cm (jA l cs b) m = some o
  | [], _, _, _, _, h => h
  | s :: r, cs, b, m, o, h => by
    simp only [jA]
    exact kh (Ll h)
theorem iR {hp : Hp} : ∀ {l : List (Nat × CSh)} {b : Bd} {m : Nat} {o : Option Nat}, cm b m = some o → cm (dj hp l b) m = some o
  | [], _, _, _, h => h
  | (n, s) :: r, b, m, o, h => by
    cases s <;> simp only [dj]
    case cells l =>
      refine iR ?_
      split
      · split
        · exact kh h
        · exact h
      · exact h
    all_goals exact iR h
section
variable {d : Nat} {hp hp' : Hp} (hg : Lx d hp hp')
include hg
theorem fN : ∀ {l : List (Nat × CSh)} {b : Bd}, (∀ q ∈ l, ∀ c, cm (dj hp l b) q.1 = some (some c) → hp c ≠ none) → dj hp' l b = dj hp l b
  | [], _, _ => rfl
  | (n, s) :: r, b, h => by
    cases s <;> simp only [dj] at h ⊢
    case cells l =>
      have e : (match cm b n with | some (some c) => (match hp' c with | some ⟨_, .cells vs⟩ => jA l vs b | _ => b) | _ => b) = (match cm b n with | some (some c) => (match hp c with | some ⟨_, .cells vs⟩ => jA l vs b | _ => b) | _ => b) := by
        split
        · rename_i c hc
          have h1 := h (n, .cells l) (by simp) c (iR (by
            split
            · split
              · exact kh hc
              · exact hc
            · exact hc))
          cases hq : hp c with
          | none => exact absurd hq h1
          | some ch => rw [hg.fQ _ _ hq]
        · rfl
      exact (congrArg (dj hp' r) e).trans (fN fun q hq c hc => h q (List.mem_cons_of_mem _ hq) c hc)
    all_goals exact fN fun q hq c hc => h q (List.mem_cons_of_mem _ hq) c hc
theorem j1 {bd : Bd} {n c e : Nat} (h : sB bd hp n c e = true) : sB bd hp' n c e = true := by
  unfold sB at h ⊢
  split at h
  · rename_i c' hc
    rw [Bool.and_eq_true] at h
    have h2 := h.2
    split at h2
    · rename_i ch hch
      rw [hg.fQ _ _ hch]
      simp only
      rw [h.1, h2]
      rfl
    · cases h2
  · cases h
theorem qF {bd : Bd} : ∀ {ns : List Nat} {l : List SV}, oF bd hp ns l = true → oF bd hp' ns l = true
  | [], [], _ => rfl
  | [], _ :: _, h => by cases h
  | n :: ns, [], h => by cases h
  | n :: ns, y :: r, h => by
    cases y <;> simp only [oF] at h ⊢ <;> try (cases h; done)
    simp only [Bool.and_eq_true] at h ⊢
    exact ⟨⟨⟨j1 hg h.1.1.1, h.1.1.2⟩, h.1.2⟩, qF h.2⟩
theorem Ka {bd : Bd} {s : Sh} {cs : List SV} (h : ik bd hp s cs = true) : ik bd hp' s cs = true := by
  unfold ik at h ⊢
  split at h
  · exact j1 hg h
  · exact h
  · simp only [Bool.and_eq_true] at h ⊢
    exact ⟨⟨j1 hg h.1.1, h.1.2⟩, h.2⟩
  · simp only [Bool.and_eq_true] at h ⊢
    exact ⟨h.1, qF hg h.2⟩
  · simp only [Bool.and_eq_true] at h ⊢
    exact ⟨h.1, j1 hg h.2.1, h.2.2⟩
  · rfl
  · rfl
  · rfl
  · cases h
theorem Es {ok : Nat → Bool} {t : Ty} {x : SV} {ys : List t.T} (h : tg ok t hp x = some ys) : tg ok t hp' x = some ys := by
  have key : ∀ {c : Nat} {f : Option Ch → Option (List t.T)}, f none = none → f (hp c) = some ys → f (hp' c) = some ys := fun {c f} h0 h => by
    cases hq : hp c with
    | none => rw [hq, h0] at h; cases h
    | some ch => rw [hg.fQ _ _ hq, ← hq]; exact h
  cases x <;> simp only [tg] at h ⊢ <;> try (first | exact h | (cases h; done))
  case own c e => exact key (c := c) (f := fun o => match o with | some ⟨ep, .row t' xs⟩ => cond (Nat.beq ep e && ok c) (bp t t' xs) none | some ⟨ep, .frz t' xs⟩ => cond (Nat.beq ep e) (bp t t' xs) none | _ => none) rfl h
  case clip c e => exact key (c := c) (f := fun o => match o with | some ⟨ep, .row t' xs⟩ => cond (Nat.beq ep e && ok c) (bp t t' xs) none | some ⟨ep, .frz t' xs⟩ => cond (Nat.beq ep e) (bp t t' xs) none | _ => none) rfl h
  case part c e off len => exact key (c := c) (f := fun o => match o with | some ⟨ep, .row t' xs⟩ => cond (Nat.beq ep e && ok c) ((bp t t' xs).map fun l => (l.drop off).take len) none | some ⟨ep, .frz t' xs⟩ => cond (Nat.beq ep e) ((bp t t' xs).map fun l => (l.drop off).take len) none | _ => none) rfl h
theorem jY {ok : Nat → Bool} : ∀ {t : Ty} {cs : List SV} {x : t.T}, n8 ok hp t cs = some x → n8 ok hp' t cs = some x
  | .bool, _, _, h => h
  | .u64, _, _, h => h
  | .u8, _, _, h => h
  | .int, _, _, h => h
  | .str, _, _, h => h
  | .elem, _, _, h => h
  | .prod a b, cs, x, h => by
    obtain ⟨h1, h2⟩ := aZ h
    simp only [n8, jY h1, jY h2, kS]
  | .arr n t, cs, x, h => by
    simp only [n8] at h ⊢
    split at h
    · rename_i hl
      rw [if_pos hl]
      exact gf (fun _ _ => jY) h
    · cases h
  | .list t, cs, x, h => by
    simp only [n8] at h ⊢
    split at h
    · rename_i hp0
      rw [if_pos hp0]
      obtain ⟨y, rfl, hy⟩ := jf h
      simp only [aaI]
      exact Es hg hy
    · cases h
omit hg in
theorem JZ {a b : Bool} {x : Unit} (hab : a = true → b = true) (h : zT a = some x) : zT b = some x := by
  rw [hab (ff h)]; rfl
theorem ub {bd : Bd} {ok : Nat → Bool} {s : Sh} {cs : List SV} {x : s.T} (h : kP bd ok hp s cs = some x) : kP bd ok hp' s cs = some x := by
  cases s <;> simp only [kP] at h ⊢
  case val b t => exact jY hg h
  all_goals exact JZ (Ka hg) h
theorem C5 {bd : Bd} {ok : Nat → Bool} {s : Sh} {y : SV} {x : s.T} (h : so bd ok hp s y = some x) : so bd ok hp' s y = some x := by
  unfold so at h ⊢
  split at h
  · exact ub hg h
  · cases h
theorem nA {bd : Bd} {ok : Nat → Bool} : ∀ {l : List Sh} {cs : List SV} {x : ShT l}, iz bd ok hp l cs = some x → iz bd ok hp' l cs = some x
  | [], [], _, h => h
  | [], _ :: _, _, h => by cases h
  | s :: r, cs, x, h => by
    obtain ⟨h1, h2⟩ := aZ (show kS (kP bd ok hp s (cs.take s.size)) (iz bd ok hp r (cs.drop s.size)) = some x from h)
    show kS (kP bd ok hp' s (cs.take s.size)) (iz bd ok hp' r (cs.drop s.size)) = some x
    rw [ub hg h1, nA h2]
    rfl
theorem ny {bd : Bd} {ok : Nat → Bool} {tm : List SV} : ∀ {l : List (Nat × Sh)} {x : SlT l}, mw bd ok hp tm l = some x → mw bd ok hp' tm l = some x
  | [], _, h => h
  | c :: r, x, h => by
    obtain ⟨h1, h2⟩ := aZ h
    simp only [mw, C5 hg h1, ny h2, kS]
    rfl
theorem zS {bd : Bd} {ok : Nat → Bool} {s : CSh} {b : Chunk} {x : s.T} (h : eO bd ok hp s b = some x) : eO bd ok hp' s b = some x := by
  cases s <;> cases b <;> simp only [eO] at h ⊢ <;> first | exact h | exact nA hg h
theorem F2 {bd : Bd} {ok : Nat → Bool} {n : Nat} {s : CSh} {x : s.T} (h : fP bd ok hp n s = some x) : fP bd ok hp' n s = some x := by
  unfold fP at h ⊢
  split at h
  · split at h
    · rename_i ch hch
      rw [hg.fQ _ _ hch]
      exact zS hg h
    · cases h
  · exact h
  · exact h
theorem kQ {bd : Bd} {ok : Nat → Bool} : ∀ {l : List (Nat × CSh)} {x : zK l}, cP bd ok hp l = some x → cP bd ok hp' l = some x
  | [], _, h => h
  | c :: r, x, h => by
    obtain ⟨h1, h2⟩ := aZ h
    simp only [cP, F2 hg h1, kQ h2, kS]
    rfl
omit hg in
theorem jX {bd : Bd} {ok : Nat → Bool} : ∀ {l : List (Nat × CSh)} {x : zK l}, cP bd ok hp l = some x → ∀ q ∈ l, ∀ c, cm bd q.1 = some (some c) → hp c ≠ none
  | [], _, _, _, hq, _, _ => by cases hq
  | c :: r, x, h, q, hq, c', hb => by
    obtain ⟨h1, h2⟩ := aZ h
    rcases List.mem_cons.1 hq with he | he
    · subst he
      unfold fP at h1
      rw [hb] at h1
      simp only at h1
      intro hn
      rw [hn] at h1
      cases h1
    · exact jX h2 q he c' hb
theorem Up {s : Shape} (hfx : s.fixed = 0) {tm : List SV} {x : s.T} (h : s.prj ⟨tm, hp⟩ = some x) : s.prj ⟨tm, hp'⟩ = some x ∧ s.bd ⟨tm, hp'⟩ = s.bd ⟨tm, hp⟩ := by
  unfold Shape.prj at h ⊢
  dsimp only at h ⊢
  cases hb : s.zM ⟨tm, hp⟩ (s.bd ⟨tm, hp⟩) && Nat.beq tm.length s.n
  · rw [hb] at h; cases h
  · rw [hb] at h
    obtain ⟨h1, h2⟩ := aZ h
    have e : s.bd ⟨tm, hp'⟩ = s.bd ⟨tm, hp⟩ := fN hg (jX h2)
    have e2 : s.zM ⟨tm, hp'⟩ (s.bd ⟨tm, hp⟩) = s.zM ⟨tm, hp⟩ (s.bd ⟨tm, hp⟩) := by
      unfold Shape.zM
      rw [hfx]
      rfl
    refine ⟨?_, e⟩
    rw [e, e2, hb, cond_true, ny hg h1, kQ hg h2]
    rfl
theorem BC {c : Nat} (h : hp c ≠ none) : Oy hp' c = Oy hp c := by
  unfold Oy
  cases hq : hp c with
  | none => exact absurd hq h
  | some ch => rw [hg.fQ _ _ hq]
theorem pc {bd : Bd} {fixed : Nat} : ∀ {l : List (Nat × CSh)}, (∀ q ∈ l, ∀ c, cm bd q.1 = some (some c) → hp c ≠ none) → cf bd hp' fixed l = cf bd hp fixed l
  | [], _ => rfl
  | c :: r, h => by
    have ih := pc (bd := bd) (fixed := fixed) (l := r) fun q hq => h q (List.mem_cons_of_mem _ hq)
    simp only [cf, ih]
    cases Nat.blt c.1 fixed
    · simp only [cond_false]
      split
      · rename_i o ho
        rw [BC hg (h c (by simp) o ho)]
      · rfl
    · rfl
theorem ZB {S : ak} {pre : S.T → Bool} {F : S.T → OT S.Y} {args : List SV} {out : Out} (h : ((S.aE pre F).f d args hp).run = some out) : ((S.aE pre F).f d args hp').run = some out := by
  simp only [ak.aE] at h ⊢
  split at h
  · cases h
  · rename_i x hx
    obtain ⟨e1, e2⟩ := Up hg (s := S.inp) rfl hx
    rw [e1]
    simp only
    rw [e2]
    obtain ⟨h1, h2⟩ := OT.au h
    rw [h1]
    obtain ⟨oy, h3, h4⟩ := OT.run_bind h2
    have hold : ∀ q ∈ S.chunks, ∀ c, cm (S.inp.bd ⟨args, hp⟩) q.1 = some (some c) → hp c ≠ none := by
      have hx' := hx
      unfold Shape.prj at hx'
      dsimp only at hx'
      cases hb : S.inp.zM ⟨args, hp⟩ (S.inp.bd ⟨args, hp⟩) && Nat.beq args.length S.inp.n
      · rw [hb] at hx'; cases hx'
      · rw [hb] at hx'
        obtain ⟨_, h2⟩ := aZ hx'
        exact jX h2
    have hbok : ∀ p ∈ S.inp.bd ⟨args, hp⟩, ∃ q ∈ S.chunks, q.1 = p.1 := by
      have hx' := hx
      unfold Shape.prj at hx'
      dsimp only at hx'
      cases hb : S.inp.zM ⟨args, hp⟩ (S.inp.bd ⟨args, hp⟩) && Nat.beq args.length S.inp.n
      · rw [hb] at hx'; cases hx'
      · rw [Bool.and_eq_true] at hb
        have := hb.1
        unfold Shape.zM at this
        simp only [Bool.and_eq_true, List.all_eq_true, List.any_eq_true] at this
        intro p hp
        obtain ⟨q, hq, he⟩ := this.1.2 p hp
        exact ⟨q, hq, Nat.eq_of_beq_eq_true he⟩
    have hepN : ∀ n c, cm (S.inp.bd ⟨args, hp⟩) n = some (some c) → Oy hp' c = Oy hp c := fun n c hc => by
      obtain ⟨q, hq, he⟩ := hbok _ (gj hc)
      exact BC hg (hold q hq c (by rw [he]; exact hc))
    unfold ak.emit at h4
    dsimp only at h4
    obtain ⟨hend, h5⟩ := OT.au h4
    -- the names
    have hfr : fresh hp' d = fresh hp d := fj hg
    have hnm : ∀ n, S.fixed ≤ n ∨ (∃ c, cm (S.inp.bd ⟨args, hp⟩) n = some (some c)) → S.nm (S.inp.bd ⟨args, hp⟩) hp' (fresh hp d) n = S.nm (S.inp.bd ⟨args, hp⟩) hp (fresh hp d) n := fun n hn => by
      unfold ak.nm
      cases hb : Nat.blt n S.fixed
      · rfl
      · rcases hn with hn | ⟨c, hn⟩
        · have := cK hb; omega
        · simp only [cond_true, nameOf, hn, hepN n c hn]
    have hnmall : S.nm (S.inp.bd ⟨args, hp⟩) hp' (fresh hp d) = S.nm (S.inp.bd ⟨args, hp⟩) hp (fresh hp d) := by
      funext n
      rcases Nat.lt_or_ge n S.fixed with hn | hn
      · refine hnm n (.inr ?_)
        have he := hend
        unfold ak.ol at he
        simp only [Bool.and_eq_true, List.all_eq_true] at he
        have h6 := (he.2.1 n (by simpa using hn)).1
        split at h6
        · rename_i c hc; exact ⟨c, hc⟩
        · cases h6
      · exact hnm n (.inl hn)
    have hend' : S.ol (S.inp.bd ⟨args, hp⟩) hp' (fresh hp d) oy.1 = true := by
      have he := hend
      unfold ak.ol at he ⊢
      simp only [Bool.and_eq_true] at he ⊢
      refine ⟨he.1, he.2.1, he.2.2.1, ?_⟩
      have h6 := he.2.2.2
      simp only [List.all_eq_true, Bool.and_eq_true, Bool.or_eq_true] at h6 ⊢
      intro q hq
      refine ⟨(h6 q hq).1, (h6 q hq).2.imp_right fun h7 => ⟨h7.1, ?_⟩⟩
      have h8 := h7.2
      have hlt := cK h7.1
      cases hz : hp (fresh hp d + (q.1 - S.fixed)) with
      | some ch => rw [hz] at h8; cases h8
      | none =>
        rw [hg.free _ ?_ hz]
        · rfl
        · obtain ⟨k, hk1, hk2⟩ : ∃ k, k ≤ 4000 ∧ fresh hp d = (d + 1) * 4096 + k := by
            have : ∀ (n k : Nat), n + k ≤ 4000 → ∃ j, j ≤ 4000 ∧ cT hp d n k = (d + 1) * 4096 + j := by
              intro n
              induction n with
              | zero => intro k hk; exact ⟨k, by omega, rfl⟩
              | succ n ih =>
                intro k hk
                simp only [cT]
                split
                · exact ⟨k, by omega, rfl⟩
                · exact ih (k + 1) (by omega)
            exact this 4000 0 (by omega)
          rw [hk2]
          unfold fV
          omega
    have hem : (S.emit (S.inp.bd ⟨args, hp⟩) d hp' oy.1 oy.2).run = some out := by
      unfold ak.emit
      dsimp only
      rw [hfr, hend', hnmall, pc hg hold]
      exact h5
    have hbind : ∀ {α β : Type} (t : OT α) (f : α → OT β) (a : α) (b : β), t.run = some a → (f a).run = some b → (t.bind f).run = some b := by
      intro α β t f a b h1 h2
      induction t with
      | ok a' => cases h1; exact h2
      | br c u v hu hv =>
        cases c
        · exact hv h1
        · exact hu h1
      | fail => cases h1
    exact hbind (F x) _ oy out h3 hem
end
theorem aA {S : ak} {pre : S.T → Bool} {F : S.T → OT S.Y} : aD (S.aE pre F) := fun _ _ _ _ _ hg h => ZB hg h
end Sx
end Go.Proofs.Ytohjofabochgfaa

namespace Go.Proofs.Ytohjofabochgfaa
namespace Sx
open Go
def OT.wpR {α : Type} (t : OT α) (K : α → Prop) : Prop :=
  OT.rec (motive := fun _ => Prop) (fun a => K a) (fun b _ _ x y => Bool.rec (motive := fun _ => Prop) y x b) False t
theorem OT.EU {α : Type} (t : OT α) (K : α → Prop) : t.wpR K = t.wp K := by
  induction t with
  | ok b => rfl
  | br b x y hx hy =>
    cases b
    · exact hy
    · exact hx
  | fail => rfl
theorem OT.ky {α : Type} {t : OT α} {a : α} {K : α → Prop} (h : t.run = some a) (hk : K a) : t.wp K := by
  induction t with
  | ok b => cases h; exact hk
  | br b x y hx hy =>
    cases b
    · exact hy h
    · exact hx h
  | fail => cases h
def al (fn : Func) : Code := fn.body.getD .skip
abbrev aS := Sigma fun p : SE × Shape => p.2.T
def dm (sh : Shape) (xs : SE → Option Shape) (Q : Sum sh.T aS → Prop) (e : SE) (st : St) : Prop := match e with
  | .normal => sh.on st fun s => Q (.inl s)
  | e => match xs e with
    | none => False
    | some s => s.on st fun x => Q (.inr ⟨(e, s), x⟩)
def aB {σ ε : Type} (T : σ → OT (Sum σ ε)) : Nat → σ → Option ε
  | 0, _ => none
  | n + 1, s => match (T s).run with
    | some (.inl s') => aB T n s'
    | some (.inr e) => some e
    | none => none
def dZ (sh : Shape) (id : Nat) (ok : sh.T → Bool) (f : sh.T → OT aS) (st : St) (K : SE → St → Prop) : Prop :=
  sh.on st fun s => cond (ok s) ((f s).wp fun e => K (VN id e.1.1) (e.1.2.inj e.2)) False
section
variable {P : Program} {te : TE} {Φ : Env} (hte : iS P te) (hΦ : aN P Φ) (hany : aY P te Φ)
include hte hΦ hany
theorem Zf {R₀ : Ctx} {sh : Shape} (h0 : Small R₀ sh.fixed) {xs : SE → Option Shape} (hxs : ∀ e s, xs e = some s → Small R₀ s.fixed) (hpan : ∀ v, xs (.pan v) = none) {Λ : Lam} {body : Code} (hΛ : tk P R₀ Λ body)
    {id n : Nat} {T : sh.T → OT (Sum sh.T aS)} (hT : ∀ s Q, wps te Φ Λ n body (sh.inj s) (dm sh xs Q) = (T s).wpR Q) :
    zL P R₀ (.block id (.loop body)) fun st K => sh.on st fun s => ∃ m e, aB T m s = some e ∧ K (VN id e.1.1) (e.1.2.inj e.2) := by
  intro R st a w K Q hx hst hl hK
  obtain ⟨s, R', ⟨m, e, hr, hk⟩, hx', hst'⟩ := Shape.C7 h0 hx hst hl
  refine wp_block (tQ ?_)
  clear hl hst hx
  induction m generalizing s R' a w with
  | zero => cases hr
  | succ m ih =>
    simp only [aB] at hr
    cases ht : (T s).run with
    | none => rw [ht] at hr; cases hr
    | some o =>
      rw [ht] at hr
      have hw : wps te Φ Λ n body (sh.inj s) (dm sh xs (fun z => z = o)) := by
        rw [hT, OT.EU]; exact OT.ky ht rfl
      refine xd (ET (R₀ := R₀) hte hΦ hany hΛ hx' hst' hw ⟨?_, ?_, ?_, ?_⟩)
      · intro R1 st1 a1 w1 hx1 hst1 hk1
        obtain ⟨s', R2, g1, g4, g5⟩ := Shape.C7 h0 hx1 hst1 (hk1 : sh.on st1 _)
        subst g1
        exact ih a1 w1 s' R2 hr g4 g5
      · intro R1 st1 a1 w1 hx1 hst1 hk1
        simp only [dm] at hk1
        split at hk1
        · exact hk1.elim
        · rename_i sh' he
          obtain ⟨x, R2, g1, g2, g3⟩ := Shape.C7 (hxs _ sh' he) hx1 hst1 hk1
          subst g1
          cases hr
          exact hK.ret R2 _ a1 w1 g2 g3 hk
      · intro R1 st1 a1 w1 j hx1 hst1 hk1
        simp only [dm] at hk1
        split at hk1
        · exact hk1.elim
        · rename_i sh' he
          obtain ⟨x, R2, g1, g2, g3⟩ := Shape.C7 (hxs _ sh' he) hx1 hst1 hk1
          subst g1
          cases hr
          simp only [VN] at hk
          simp only [Exit.inBlock]
          by_cases e : j = id
          · subst e
            rw [Nat.beq_refl, cond_true] at hk
            simp only [if_true]
            exact hK.normal R2 _ a1 w1 g2 g3 hk
          · have hb : Nat.beq j id = false := by
              cases hq : Nat.beq j id
              · rfl
              · exact absurd (Nat.eq_of_beq_eq_true hq) e
            rw [hb, cond_false] at hk
            simp only [e, if_false]
            exact hK.exit R2 _ a1 w1 j g2 g3 hk
      · intro R1 st1 a1 w1 sv v hx1 hst1 hv hk1
        simp only [dm, hpan] at hk1
theorem bJ {R₀ : Ctx} {sh : Shape} (h0 : Small R₀ sh.fixed) {xs : SE → Option Shape} (hxs : ∀ e s, xs e = some s → Small R₀ s.fixed) (hpan : ∀ v, xs (.pan v) = none) {Λ : Lam} {body : Code} (hΛ : tk P R₀ Λ body)
    {id n : Nat} {T : sh.T → OT (Sum sh.T aS)} (hT : ∀ s Q, wps te Φ Λ n body (sh.inj s) (dm sh xs Q) = (T s).wpR Q) {ok : sh.T → Bool} {f : sh.T → OT aS}
    (hf : ∀ s, ok s = true → ∃ m e, aB T m s = some e ∧ (f s).run = some e) : zL P R₀ (.block id (.loop body)) (dZ sh id ok f) := by
  intro R st a w K Q hx hst hl hK
  refine Zf hte hΦ hany h0 hxs hpan hΛ hT (id := id) R st a w K Q hx hst ?_ hK
  unfold dZ at hl
  unfold Shape.on at hl ⊢
  split at hl
  · rename_i s hs
    cases ho : ok s
    · rw [ho] at hl; exact hl.elim
    · rw [ho] at hl
      obtain ⟨m, e, h1, h2⟩ := hf s ho
      obtain ⟨e', h3, h4⟩ := OT.L6 hl
      rw [h2] at h3
      cases h3
      rw [hs]
      exact ⟨m, e, h1, h4⟩
  · exact hl.elim
def fnK (S : ak) (sel : SV → Option aq) (Q : S.Y → Prop) (v : SV) (hp : Hp) : Prop := match sel v with
  | some o => match (o.shape S.fixed).prj ⟨TO o.rs.length v, hp⟩ with
    | some y => Q ⟨o, y⟩
    | none => False
  | none => False
def aaS (S : ak) : List aq → (S.Y → Prop) → SV → Hp → Prop
  | [], _, _, _ => False
  | o :: r, Q, v, hp => match (o.shape S.fixed).prj ⟨TO o.rs.length v, hp⟩ with
    | some y => Q ⟨o, y⟩
    | none => aaS S r Q v hp
omit hte hΦ hany in
theorem GZ {S : ak} {Q : S.Y → Prop} {v : SV} {hp : Hp} : ∀ {outs : List aq}, aaS S outs Q v hp → ∃ o ∈ outs, ∃ y, (o.shape S.fixed).prj ⟨TO o.rs.length v, hp⟩ = some y ∧ Q ⟨o, y⟩
  | [], h => h.elim
  | o :: r, h => by
    simp only [aaS] at h
    split at h
    · rename_i y hy
      exact ⟨o, List.mem_cons_self .., y, hy, h⟩
    · obtain ⟨o', h1, h2⟩ := GZ h
      exact ⟨o', List.mem_cons_of_mem _ h1, h2⟩
theorem aC {f : FuncId} {fn : Func} {c : Code} (hf : P.funcs[f]? = some fn) (hb : fn.body = some c) (hname : (fn.name == "runtime.NumGoroutine") = false) {S : ak} {k : Nat} (hk : S.chunks.all (fun c => Nat.blt c.1 k && !c.2.pR) = true) {Λ : Lam}
    (hΛ : ∀ R, Small R k → tk P R Λ c) {n : Nat} {sel : SV → Option aq} (hsel : ∀ v o, sel v = some o → o.pan = false) {pre : S.T → Bool} {F T : S.T → OT S.Y}
    (h : ∀ x Q, wpf te Φ Λ n fn (S.inp.inj x).tm (S.inp.inj x).hp (fnK S sel Q) (fun _ _ => False) = (T x).wpR Q)
    (hF : ∀ x oy, pre x = true → (F x).run = some oy → (T x).run = some oy) : ab P f (S.aE pre F) := by
  refine ZA hte hΦ hany hf hb hname hk hΛ (n := n) fun x oy hp hr => ⟨fnK S sel (fun z => z = oy), fun _ _ => False, ?_, fun v hp hq => ?_, fun _ _ hq => hq.elim⟩
  · rw [h, OT.EU]; exact OT.ky (hF x oy hp hr) rfl
  · unfold fnK at hq
    split at hq
    · rename_i o ho
      split at hq
      · rename_i y hy
        subst hq
        exact ⟨hsel v o ho, hy⟩
      · exact hq.elim
    · exact hq.elim
theorem DI {f : FuncId} {fn : Func} {c : Code} (hf : P.funcs[f]? = some fn) (hb : fn.body = some c) (hname : (fn.name == "runtime.NumGoroutine") = false) {S : ak} {k : Nat} (hk : S.chunks.all (fun c => Nat.blt c.1 k && !c.2.pR) = true) {Λ : Lam}
    (hΛ : ∀ R, Small R k → tk P R Λ c) {n : Nat} {outs : List aq} (hsel : (outs.all fun o => !o.pan) = true) {pre : S.T → Bool} {F T : S.T → OT S.Y}
    (h : ∀ x Q, wpf te Φ Λ n fn (S.inp.inj x).tm (S.inp.inj x).hp (aaS S outs Q) (fun _ _ => False) = (T x).wpR Q)
    (hF : ∀ x oy, pre x = true → (F x).run = some oy → (T x).run = some oy) : ab P f (S.aE pre F) := by
  refine ZA hte hΦ hany hf hb hname hk hΛ (n := n) fun x oy hp hr => ⟨aaS S outs (fun z => z = oy), fun _ _ => False, ?_, fun v hp hq => ?_, fun _ _ hq => hq.elim⟩
  · rw [h, OT.EU]; exact OT.ky (hF x oy hp hr) rfl
  · obtain ⟨o, ho, y, hy, hQ⟩ := GZ hq
    subst hQ
    exact ⟨by have := List.all_eq_true.1 hsel o ho; simpa using this, hy⟩
end
end Sx
end Go.Proofs.Ytohjofabochgfaa

namespace Go.Proofs.Ytohjofabochgfaa
namespace Sx
open Go
def zeroCells : Ty → List Value
  | .bool => [.bool false]
  | .u64 => [eo 0]
  | .u8 => [vu8 0]
  | .int => [.int .i64 0]
  | .str => [.string ⟨#[]⟩]
  | .elem => [eo 0, eo 0, eo 0, eo 0]
  | .prod a b => zeroCells a ++ zeroCells b
  | .arr n t => (List.replicate n (zeroCells t)).flatten
  | .list _ => [.slice none 0 0]
theorem bL : ∀ t : Ty, (zeroCells t).length = t.size
  | .bool => rfl
  | .u64 => rfl
  | .u8 => rfl
  | .int => rfl
  | .str => rfl
  | .elem => rfl
  | .prod a b => by simp only [zeroCells, List.length_append, bL a, bL b, Ty.size]
  | .arr n t => by simp [zeroCells, bL t, Ty.size]
  | .list _ => rfl
theorem xQ {c : List Value} {m : Nat} (hc : c.length = m) : ∀ (n i : Nat), i < n → seg (List.replicate n c).flatten (i * m) m = c
  | 0, _, h => by omega
  | n + 1, 0, _ => by
    simp only [seg, List.replicate_succ, List.flatten_cons, Nat.zero_mul, List.drop_zero, List.take_append, hc, Nat.sub_self, List.take_zero, List.append_nil]
    rw [← hc, List.take_length]
  | n + 1, i + 1, h => by
    have ih := xQ hc n i (by omega)
    simp only [seg] at ih ⊢
    rw [List.replicate_succ, List.flatten_cons]
    have : (i + 1) * m = c.length + i * m := by rw [hc, Nat.add_mul]; omega
    rw [this, List.drop_append]
    simp only [Nat.add_sub_cancel_left]
    rw [List.drop_eq_nil_of_le (by omega), List.nil_append, ih]
theorem vn {F : Nat → Option Obj} : ∀ t : Ty, Rep F t t.d (zeroCells t)
  | .bool => rfl
  | .u64 => rfl
  | .u8 => rfl
  | .int => ⟨rfl, by decide⟩
  | .str => ⟨rfl, by simp [Ty.d]⟩
  | .elem => rfl
  | .prod a b => by
    refine ⟨by simp only [zeroCells, List.length_append, bL], ?_, ?_⟩
    · have : (zeroCells (.prod a b)).take a.size = zeroCells a := by
        simp only [zeroCells]
        rw [← bL a, List.take_left]
      rw [this]; exact vn a
    · have : (zeroCells (.prod a b)).drop a.size = zeroCells b := by
        simp only [zeroCells]
        rw [← bL a, List.drop_left]
      rw [this]; exact vn b
  | .arr n t => by
    refine ⟨bL _, by simp [Ty.d], fun i hi => ?_⟩
    have h1 : (Ty.d (.arr n t)).getD i t.d = t.d := by
      simp [Ty.d, List.getD_eq_getElem?_getD, List.getElem?_replicate, hi]
    rw [h1]
    simp only [zeroCells]
    rw [xQ (bL t) n i hi]
    exact vn t
  | .list t => ⟨by simp [Ty.d], none, 0, rfl, by simp [Ty.d], .inl rfl⟩
def afe (P : Program) (T : TypeId) (d : TypeDesc) : TD → Bool
  | .struct fs => match d with
    | .struct fields => decide (fields.toList.map (fun f => (f.offset, f.type)) = fs) && fields.toList.all (fun f => !decide (f.name = "_")) && !P.stoodInHeld T &&
        (fields.toList.mapM (fun f => (P.info? f.type).map fun i => (f.offset, i.size))).isSome
    | _ => false
  | .array n e => match d with
    | .array n' e' => Nat.beq n n' && Nat.beq e e'
    | _ => false
  | .slice e => match d with
    | .slice e' => Nat.beq e e'
    | _ => false
  | .int k => match d with
    | .int k' => decide (k' = k)
    | _ => false
  | .bool => match d with
    | .bool => true
    | _ => false
  | .str => match d with
    | .string => true
    | _ => false
  | .ptr ms => match d with
    | .pointer _ => match P.info? T with
      | some i => ms.all fun nf => match i.methods.find? (fun q => q.name == nf.1) with
        | some m => m.path.toList.isEmpty && (match m.func with
          | some (f, b) => b && Nat.beq f nf.2
          | none => false)
        | none => false
      | none => false
    | _ => false
  | .iface => match d with
    | .interface _ => true
    | _ => false
  | .other => match d with
    | .struct _ => false
    | .array .. => false
    | _ => true
theorem af {P : Program} {T : TypeId} {ti : TI} (h1 : (P.info? T).isSome = true) (h4 : ((P.info? T).get h1).zero.isSome = true) (h10 : (P.underlying T).isSome = true)
    (hs : Nat.beq ((P.info? T).get h1).size ti.size = true) (hb : Nat.beq ((P.info? T).get h1).bytes ti.bytes = true)
    (hz : (((P.info? T).get h1).zero.get h4).cells.toList.map wW = ti.zero) (hc : ((((P.info? T).get h1).zero.get h4).cells.toList.all Value.oneCell') = true)
    (hn : Nat.beq (((P.info? T).get h1).zero.get h4).cells.size ti.size = true) (h8 : Nat.ble ti.size 16777216 = true) (h9 : (ti.desc.agg || Nat.beq ti.size 1) = true)
    (hd : afe P T ((P.underlying T).get h10) ti.desc = true)
    (ht : match ti.ty with
      | none => True
      | some t => Nat.beq t.size ti.size = true ∧ (((P.info? T).get h1).zero.get h4).cells.toList = zeroCells t ∧ (!ti.desc.agg || !P.eqGuardType P.depth T) = true) : aT P T ti := by
  have e1 : P.info? T = some ((P.info? T).get h1) := (Option.some_get h1).symm
  have e4 : ((P.info? T).get h1).zero = some (((P.info? T).get h1).zero.get h4) := (Option.some_get h4).symm
  refine ⟨⟨_, _, e1, Nat.eq_of_beq_eq_true hs, Nat.eq_of_beq_eq_true hb, e4, hz, Nat.eq_of_beq_eq_true hn, fun u hu => List.all_eq_true.1 hc u hu⟩, Nat.le_of_ble_eq_true h8, fun ha => ?_, ⟨_, (Option.some_get h10).symm, ?_⟩, fun t hty => ?_⟩
  · rw [ha, Bool.false_or] at h9
    exact Nat.eq_of_beq_eq_true h9
  · generalize (P.underlying T).get h10 = d at hd
    cases hdd : ti.desc <;> rw [hdd] at hd <;> simp only [afe] at hd <;> (try dsimp only)
    case struct fs =>
      split at hd
      · rename_i fields
        simp only [Bool.and_eq_true, decide_eq_true_eq, List.all_eq_true, Bool.not_eq_true', decide_eq_false_iff_not] at hd
        exact ⟨fields, rfl, hd.1.1.1, hd.1.1.2, hd.1.2, hd.2⟩
      · cases hd
    case array n e =>
      split at hd
      · rw [Bool.and_eq_true] at hd
        rw [Nat.eq_of_beq_eq_true hd.1, Nat.eq_of_beq_eq_true hd.2]
      · cases hd
    case slice e =>
      split at hd
      · rw [Nat.eq_of_beq_eq_true hd]
      · cases hd
    case int k =>
      split at hd
      · rw [of_decide_eq_true hd]
      · cases hd
    case bool =>
      split at hd
      · rfl
      · cases hd
    case str =>
      split at hd
      · rfl
      · cases hd
    case ptr ms =>
      split at hd
      · refine ⟨⟨_, rfl⟩, ?_⟩
        split at hd
        · rename_i i hi
          intro nf hnf
          have hq := List.all_eq_true.1 hd nf hnf
          split at hq
          · rename_i m hm
            rw [Bool.and_eq_true] at hq
            refine ⟨i, m, hi, hm, ?_, ?_⟩
            · apply Array.ext'
              simpa using hq.1
            · have h2 := hq.2
              split at h2
              · rename_i f b hf
                rw [Bool.and_eq_true] at h2
                rw [hf, Nat.eq_of_beq_eq_true h2.2, h2.1]
              · cases h2
          · cases hq
        · cases hd
      · cases hd
    case iface =>
      split at hd
      · exact ⟨_, rfl⟩
      · cases hd
    case other =>
      cases d <;> first | trivial | (cases hd; done)
  · rw [hty] at ht
    obtain ⟨t1, t2, t3⟩ := ht
    refine ⟨Nat.eq_of_beq_eq_true t1, fun F z hz' => ?_, fun ha => ?_⟩
    · rw [e1] at hz'
      simp only [Option.bind_some] at hz'
      rw [e4] at hz'
      cases hz'
      rw [t2]
      exact vn t
    · rw [ha, Bool.not_true, Bool.false_or, Bool.not_eq_true'] at t3
      exact t3
def aeG : TE := fun _ => none
def ai (T : TypeId) (ti : TI) (te : TE) : TE := fun x => cond (Nat.beq x T) (some ti) (te x)
theorem YE {P : Program} : iS P aeG := fun _ _ h => by cases h
theorem aa {P : Program} {T : TypeId} {ti : TI} {te : TE} (h : aT P T ti) (ht : iS P te) : iS P (ai T ti te) := fun x t hx => by
  unfold ai at hx
  cases hb : Nat.beq x T
  · rw [hb] at hx; exact ht x t hx
  · rw [hb] at hx
    cases hx
    rw [Nat.eq_of_beq_eq_true hb]
    exact h
def VQ : Env := fun _ => none
def av (f : FuncId) (s : bO) (Φ : Env) : Env := fun x => cond (Nat.beq x f) (some s) (Φ x)
theorem VP {P : Program} : aN P VQ := fun _ _ h => by cases h
theorem ah {P : Program} {f : FuncId} {s : bO} {Φ : Env} (h : ab P f s) (hΦ : aN P Φ) : aN P (av f s Φ) := fun x t hx => by
  unfold av at hx
  cases hb : Nat.beq x f
  · rw [hb] at hx; exact hΦ x t hx
  · rw [hb] at hx
    cases hx
    rw [Nat.eq_of_beq_eq_true hb]
    exact h
theorem KS : ar VQ := fun _ _ h => by cases h
theorem ac {f : FuncId} {s : bO} {Φ : Env} (h : aD s) (hΦ : ar Φ) : ar (av f s Φ) := fun x t hx => by
  unfold av at hx
  cases hb : Nat.beq x f
  · rw [hb] at hx; exact hΦ x t hx
  · rw [hb] at hx
    cases hx
    exact h
end Sx
end Go.Proofs.Ytohjofabochgfaa

namespace Go.Proofs.Ytohjofabochgfaa
namespace Sx
open Go
def nt (l : List (Nat × Shape)) (r : Option Shape) : SE → Option Shape
  | .exit n => (l.find? fun p => Nat.beq p.1 n).map (·.2)
  | .ret => r
  | _ => none
theorem aI {l : List (Nat × Shape)} {r : Option Shape} {k : Nat} {R : Ctx} (hl : (l.all fun p => Nat.beq p.2.fixed k) = true) (hr : (r.all fun s => Nat.beq s.fixed k) = true) (hR : Small R k) :
    ∀ e s, nt l r e = some s → Small R s.fixed := by
  intro e s h
  cases e with
  | exit n =>
    simp only [nt] at h
    cases hf : l.find? fun p => Nat.beq p.1 n with
    | none => rw [hf] at h; cases h
    | some p =>
      rw [hf] at h
      cases h
      rw [Nat.eq_of_beq_eq_true (List.all_eq_true.1 hl p (List.mem_of_find?_eq_some hf))]
      exact hR
  | ret =>
    simp only [nt] at h
    subst h
    have e : s.fixed = k := Nat.eq_of_beq_eq_true (by simpa using hr)
    rw [e]
    exact hR
  | normal => cases h
  | pan v => cases h
theorem bk {l : List (Nat × Shape)} {r : Option Shape} (v : SV) : nt l r (.pan v) = none := rfl
section
variable {σ ε : Type} {T : σ → OT (Sum σ ε)}
theorem bx {s s' : σ} {m : Nat} {e : ε} (h : (T s).run = some (.inl s')) (h2 : aB T m s' = some e) : aB T (m + 1) s = some e := by
  simp only [aB, h]; exact h2
theorem ca {s : σ} {e : ε} (h : (T s).run = some (.inr e)) : aB T 1 s = some e := by
  simp only [aB, h]
theorem w9 (st : Nat → σ) (n : Nat) {e : ε} (h : ∀ k, k < n → (T (st k)).run = some (.inl (st (k + 1)))) (hn : (T (st n)).run = some (.inr e)) : ∀ j k, k + j = n → aB T (j + 1) (st k) = some e
  | 0, k, hk => by
    have : k = n := by omega
    subst this
    exact ca hn
  | j + 1, k, hk => bx (h k (by omega)) (w9 st n h hn j (k + 1) (by omega))
theorem xa (st : Nat → σ) (n : Nat) {e : ε} (h : ∀ k, k < n → (T (st k)).run = some (.inl (st (k + 1)))) (hn : (T (st n)).run = some (.inr e)) (k : Nat) (hk : k ≤ n) : ∃ m, aB T m (st k) = some e :=
  ⟨n - k + 1, w9 st n h hn (n - k) k (by omega)⟩
def upto {β : Type} (f : Nat → β → β) (b : β) : Nat → β
  | 0 => b
  | k + 1 => f k (upto f b k)
theorem bt {β : Type} (mk : Nat → β → σ) (step : Nat → β → β) (fin : β → ε) (n : Nat) (b0 : β) (P : Nat → β → Prop) (h0 : P 0 b0)
    (hs : ∀ k b, k < n → P k b → (T (mk k b)).run = some (.inl (mk (k + 1) (step k b))) ∧ P (k + 1) (step k b))
    (he : ∀ b, P n b → (T (mk n b)).run = some (.inr (fin b))) : (∃ m, aB T m (mk 0 b0) = some (fin (upto step b0 n))) ∧ P n (upto step b0 n) := by
  have hP : ∀ k, k ≤ n → P k (upto step b0 k) := by
    intro k
    induction k with
    | zero => exact fun _ => h0
    | succ k ih => exact fun hk => (hs k _ (by omega) (ih (by omega))).2
  refine ⟨?_, hP n (Nat.le_refl _)⟩
  exact xa (fun k => mk k (upto step b0 k)) n (fun k hk => (hs k _ hk (hP k (by omega))).1) (he _ (hP n (Nat.le_refl _))) 0 (Nat.zero_le _)
end
def tab {α : Type} (x : List α) (n : Nat) (d : α) : List α := (List.range n).map fun i => x.getD i d
theorem tV {α : Type} {x : List α} {n : Nat} {d : α} (h : x.length = n) : tab x n d = x := by
  apply List.ext_getElem
  · simp [tab, h]
  · intro i h1 h2
    simp [tab, List.getD_eq_getElem?_getD, h2]
def lay {α : Type} (x y : List α) (n : Nat) (d : α) : List α := (List.range n).foldl (fun a i => a.set i (y.getD i d)) x
theorem jj {α : Type} {x y : List α} {d : α} : ∀ n, (lay x y n d).length = x.length
  | 0 => rfl
  | n + 1 => by
    have := jj (x := x) (y := y) (d := d) n
    simp only [lay, List.range_succ, List.foldl_append, List.foldl_cons, List.foldl_nil, List.length_set] at this ⊢
    exact this
theorem UQ {α : Type} {x y : List α} {d : α} : ∀ n i, n ≤ x.length → i < x.length → (lay x y n d)[i]? = if i < n then some (y.getD i d) else x[i]?
  | 0, i, _, _ => by simp [lay]
  | n + 1, i, h, hi => by
    have ih := UQ (x := x) (y := y) (d := d) n i (by omega) hi
    have hl := jj (x := x) (y := y) (d := d) n
    simp only [lay] at ih hl
    simp only [lay, List.range_succ, List.foldl_append, List.foldl_cons, List.foldl_nil]
    by_cases e : n = i
    · subst e
      rw [List.getElem?_set_self (by omega), if_pos (by omega)]
    · rw [List.getElem?_set_ne e, ih]
      by_cases h1 : i < n
      · rw [if_pos h1, if_pos (by omega)]
      · rw [if_neg h1, if_neg (by omega)]
theorem Gh {α : Type} {x y : List α} {n : Nat} {d : α} (hx : x.length = n) (hy : y.length = n) : lay x y n d = y := by
  apply List.ext_getElem?
  intro i
  by_cases hi : i < n
  · rw [UQ n i (by omega) (by omega), if_pos hi, List.getD_eq_getElem?_getD, List.getElem?_eq_getElem (by omega)]
    rfl
  · rw [List.getElem?_eq_none (by rw [jj]; omega), List.getElem?_eq_none (by omega)]
theorem OT.dq {α : Type} {a : α} : (OT.ok a).run = some a := rfl
theorem OT.ax {α : Type} {b : Bool} {x y : OT α} (h : b = true) : (OT.br b x y).run = x.run := by rw [h]; rfl
theorem OT.ay {α : Type} {b : Bool} {x y : OT α} (h : b = false) : (OT.br b x y).run = y.run := by rw [h]; rfl
def gd {α : Type} : List Bool → OT α → OT α
  | [], x => x
  | b :: r, x => .br b (gd r x) .fail
theorem aj {α : Type} {x : OT α} : ∀ {bs : List Bool}, bs.all (fun b => b) = true → (gd bs x).run = x.run
  | [], _ => rfl
  | b :: r, h => by
    rw [List.all_cons, Bool.and_eq_true] at h
    exact (OT.ax h.1).trans (aj h.2)
theorem aX {n : Int} (h : -9223372036854775808 ≤ n ∧ n ≤ 9223372036854775807) : inR n = true := by simp [inR, h.1, h.2]
theorem aQ {k : Int} {n : Nat} (h : 0 ≤ k ∧ k < (n : Int)) : inB k n = true := by simp [inB, h.1, h.2]
theorem Gs {k : Int} {n : Nat} (h : inB k n = true) : k.toNat < n := by
  simp only [inB, Bool.and_eq_true, decide_eq_true_eq] at h
  omega
theorem fp {l h : Int} {n : Nat} (hh : 0 ≤ l ∧ l ≤ h ∧ h ≤ (n : Int)) : cV l h n = true := by simp [cV, hh.1, hh.2.1, hh.2.2]
end Sx
end Go.Proofs.Ytohjofabochgfaa

namespace Go.Proofs.Ytohjofabochgfaa
namespace Sx
open Go Go.RowKit
def eG (w : World) : Ctx := ⟨fun b => w.heap[b]?, ⟨fun _ => none, w⟩, fun _ => none, UA⟩
theorem YK (w : World) : ci (eG w) w :=
  ⟨fun _ _ h => h, (fun _ _ h => by cases h), (fun c ch h => by cases h), (fun c c' ch ch' L L' h => by cases h), fun _ _ _ => rfl, ⟨rfl, rfl, rfl⟩⟩
theorem Jo {w w' : World} {R' : Ctx} {u : List (Nat × Ch)} (h : cn (eG w) R' w' u) : Below w.heap.size w w' := by
  have he := h.mem.env
  rw [h.ext.U] at he
  have hb : ∀ k, k < w.heap.size → w'.heap[k]? = w.heap[k]? := fun k hk => by
    have h1 : w.heap[k]? = some w.heap[k] := by simp [hk]
    rw [h.mem.F k _ (h.ext.F k _ h1), h1]
  refine ⟨he.1, he.2.2, he.2.1, ?_, hb⟩
  rcases Nat.lt_or_ge w'.heap.size w.heap.size with hl | hl
  · have := hb _ hl
    simp [hl] at this
  · exact hl
theorem US {P : Program} {f : FuncId} {s : bO} (h : ab P f s) (hfn : ∃ fn, P.funcs[f]? = some fn ∧ (fn.name == "runtime.NumGoroutine") = false ∧ fn.body.isNone = false) {w : World} {args : List SV} {vs : List Value} {u : List (Nat × Ch)} (hr : SV.bg (eG w) args vs)
    (ht : (s.f 0 args UA).run = some (.ret ⟨.bool true, u⟩)) : Calls P f vs.toArray w fun e w' => e = .returned (.bool true) ∧ Below w.heap.size w w' := by
  have hc : Calls P f vs.toArray w (iL (eG w) (.ret ⟨.bool true, u⟩)) := by
    rcases h.calls (eG w) w 0 args vs _ (YK w) hr ht with ⟨_, _, _, _, hc⟩ | ⟨v, w', hv, _⟩
    · exact hc
    · exfalso
      obtain ⟨fn, f1, f2, f3⟩ := hfn
      have f2' : ¬ fn.name = "runtime.NumGoroutine" := by simpa using f2
      have f3' : ¬ fn.body = none := fun e => by rw [e] at f3; simp at f3
      simp [callFunc, f1, f2', f3'] at hv
  refine hc.mono fun e w' hp => ?_
  obtain ⟨v, R', rfl, ha, hv⟩ := hp
  simp only [SV.rel] at hv
  subst hv
  exact ⟨rfl, Jo ha⟩
end Sx
end Go.Proofs.Ytohjofabochgfaa

namespace Go.Proofs.Ytohjofabochgfaa
namespace Sx
open Go Go.RowKit
def Fw (te : TE) (T : TypeId) (n : Nat) : Bool := match te T with
  | some ei => Nat.beq ei.size n
  | none => false
def ss (go : TypeId → Ty → Bool) (te : TE) : Nat → List (Nat × TypeId) → Ty → Bool
  | o, [(p, T)], y => Nat.beq o p && (Fw te T y.size && go T y)
  | o, (p, T) :: q :: r, .prod a b => Nat.beq o p && (Fw te T a.size && (go T a && ss go te (o + a.size) (q :: r) b))
  | _, _, _ => false
def pH (te : TE) : Nat → TypeId → Ty → Bool
  | 0, _, _ => false
  | n + 1, T, y => match te T with
    | none => false
    | some ti => match ti.desc, y with
      | .bool, .bool => true
      | .int .u64, .u64 => true
      | .int .u8, .u8 => true
      | .int .i64, .int => true
      | .str, .str => true
      | .array m e, .elem => (match te e with
        | some ei => (match ei.desc with | .int .u64 => true | _ => false) && Nat.beq ei.size 1
        | none => false) && (Nat.beq m 4 && Nat.beq ti.size 4)
      | .array m e, .arr k t => Nat.beq m k && (Fw te e t.size && (Nat.beq ti.size (k * t.size) && pH te n e t))
      | .slice e, .list t => (match te e with
        | some ei => Nat.beq ei.size t.size && (Nat.blt 0 ei.size && Nat.blt 0 ei.bytes)
        | none => false) && pH te n e t
      | .struct fs, y => Nat.beq ti.size y.size && ss (pH te n) te 0 fs y
      | _, _ => false
theorem w6 {α β : Type} {f : α → Option β} : ∀ {l : List α} {ys : List β}, l.mapM f = some ys → ys.length = l.length ∧ ∀ (i : Nat) (h : i < l.length) (h' : i < ys.length), f l[i] = some ys[i]
  | [], ys, h => by
    simp only [List.mapM_nil, Option.pure_def, Option.some.injEq] at h
    subst h
    exact ⟨rfl, fun i hi => absurd hi (Nat.not_lt_zero _)⟩
  | x :: l, ys, h => by
    simp only [List.mapM_cons, Option.bind_eq_bind, Option.bind_eq_some_iff, Option.pure_def, Option.some.injEq] at h
    obtain ⟨y, h1, r, h2, rfl⟩ := h
    obtain ⟨h3, h4⟩ := w6 h2
    refine ⟨by simp [h3], fun i hi hi' => ?_⟩
    cases i with
    | zero => exact h1
    | succ i => exact h4 i (by simpa using hi) (by simpa using hi')
theorem oj {α : Type} {d : α} {Q : Nat → α → Prop} : ∀ (n : Nat), (∀ i, i < n → ∃ x, Q i x) → ∃ l : List α, l.length = n ∧ ∀ i, i < n → Q i (l.getD i d)
  | 0, _ => ⟨[], rfl, fun i h => absurd h (Nat.not_lt_zero _)⟩
  | n + 1, h => by
    obtain ⟨l, h1, h2⟩ := oj n fun i hi => h i (by omega)
    obtain ⟨x, hx⟩ := h n (by omega)
    refine ⟨l ++ [x], by simp [h1], fun i hi => ?_⟩
    rcases Nat.lt_or_ge i n with hi' | hi'
    · have := h2 i hi'
      rwa [List.getD_eq_getElem?_getD, List.getElem?_append_left (by omega), ← List.getD_eq_getElem?_getD]
    · have : i = n := by omega
      subst this
      rw [List.getD_eq_getElem?_getD, List.getElem?_append_right (by omega), h1]
      simpa using hx
theorem D1 {w : World} {a : Addr} {n : Nat} {cs : List Value} (hn : 0 < n) (h : w.cells? 0 a n = some cs) :
    ∃ arr E fz, w.heap[a.block]? = some (.cells arr E fz) ∧ a.spot = none ∧ a.off + n ≤ arr.size ∧ cs = seg arr.toList a.off n := by
  unfold World.cells? at h
  rw [if_pos (Nat.zero_le _)] at h
  obtain ⟨h1, h2⟩ := w6 h
  rw [List.length_range] at h1
  have hat : ∀ i (hi : i < n), w.cell? (a.add i) = some (cs[i]'(by omega)) := fun i hi => by
    have := h2 i (by simpa using hi) (by omega)
    simpa using this
  have h0 := hat 0 hn
  have e0 : a.add 0 = a := rfl
  rw [e0] at h0
  unfold World.cell? at h0
  split at h0
  · rename_i arr E fz hb
    split at h0
    · cases h0
    · rename_i hs
      have hs' : a.spot = none := by simpa using hs
      have hget : ∀ i (hi : i < n), arr[a.off + i]? = some (cs[i]'(by omega)) := fun i hi => by
        have := hat i hi
        unfold World.cell? Addr.add at this
        by_cases hi0 : i = 0
        · subst hi0
          simpa [hb, hs'] using this
        · rw [if_neg hi0] at this
          simpa [hb] using this
      have hle : a.off + n ≤ arr.size := by
        have := (Array.getElem?_eq_some_iff.1 (hget (n - 1) (by omega))).1
        omega
      refine ⟨arr, E, fz, hb, hs', hle, ?_⟩
      apply List.ext_getElem
      · rw [dG (by simpa using hle)]; exact h1
      · intro i hi hi'
        obtain ⟨hlt, he⟩ := Array.getElem?_eq_some_iff.1 (hget i (by omega))
        simp only [seg, List.getElem_take, List.getElem_drop, Array.getElem_toList]
        exact he.symm
  · cases h0
section
variable {H : Type} {enc : TypeId × Value → H} {P : Program} {te : TE} (hte : iS P te) {w : World} {sp : Nat → Bool}
abbrev Dt (w : World) : Nat → Option Obj := fun b => w.heap[b]?
include hte
theorem fm {T : TypeId} {ti : TI} (h : te T = some ti) : P.cellsOf T = ti.size := by
  obtain ⟨i, z, h1, h2, _⟩ := (hte T ti h).aed
  unfold Program.cellsOf
  rw [h1]
  exact h2
theorem Q6 {T : TypeId} {ti : TI} (h : te T = some ti) : P.bytesOf T = ti.bytes := by
  obtain ⟨i, z, h1, _, h2, _⟩ := (hte T ti h).aed
  unfold Program.bytesOf
  rw [h1]
  exact h2
omit hte in
theorem nX {T : TypeId} {n : Nat} (h : Fw te T n = true) : ∃ ti, te T = some ti ∧ ti.size = n := by
  unfold Fw at h
  split at h
  · rename_i ei he
    exact ⟨ei, he, Nat.eq_of_beq_eq_true h⟩
  · cases h
omit hte in
theorem iM {e : TypeId} : ∀ {l : List (DataW H)} {d : DataW H}, d ∈ l → ∀ n ∈ d.weights P e, n ∈ DataW.weightsAll P e l
  | x :: l, d, h, n, hn => by
    simp only [DataW.weightsAll, List.mem_append]
    rcases List.mem_cons.1 h with rfl | h
    · exact .inl hn
    · exact .inr (iM h n hn)
theorem Bw {go : TypeId → Ty → Bool} {fuel : Nat} {cs : List Value}
    (hgo : ∀ T y c d ps, go T y = true → c.length = y.size → DataW.trod enc P w 0 sp true fuel T c = some (d, ps) → (∀ n ∈ d.weights P T, n ≤ reachBytes) → ∃ x, Rep (Dt w) y x c) :
    ∀ (fl : List Field) (o : Nat) (y : Ty) (xs : List (DataW H × List MemPlace)), ss go te o (fl.map fun f => (f.offset, f.type)) y = true → o + y.size = cs.length →
      fl.mapM (fun f => DataW.trod enc P w 0 sp true fuel f.type ((cs.drop f.offset).take (P.cellsOf f.type))) = some xs →
      (∀ n ∈ DataW.weightsEach P (fl.map (·.type)) (xs.map (·.1)), n ≤ reachBytes) → ∃ x, Rep (Dt w) y x (cs.drop o)
  | [], o, y, xs, h, _, _, _ => by simp [ss] at h
  | [f], o, y, xs, h, hl, hm, hw => by
    simp only [List.map_cons, List.map_nil, ss, Bool.and_eq_true] at h
    obtain ⟨h1, h2, h3⟩ := h
    have h1 := Nat.eq_of_beq_eq_true h1
    obtain ⟨ti, ht, hs⟩ := nX h2
    simp only [List.mapM_cons, List.mapM_nil, Option.bind_eq_bind, Option.bind_eq_some_iff, Option.pure_def, Option.some.injEq] at hm
    obtain ⟨⟨d, ps⟩, e1, r, rfl, rfl⟩ := hm
    rw [fm hte ht, hs, ← h1] at e1
    have hlen : (cs.drop o).length = y.size := by simp; omega
    rw [List.take_of_length_le (by omega)] at e1
    exact hgo _ _ _ _ _ h3 hlen e1 fun n hn => hw n (by simp only [List.map_cons, List.map_nil, DataW.weightsEach, List.append_nil]; exact hn)
  | f :: g :: r, o, y, xs, h, hl, hm, hw => by
    cases y <;> simp only [List.map_cons, ss, Bool.and_eq_true] at h <;> try (cases h; done)
    rename_i a b
    obtain ⟨h1, h2, h3, h4⟩ := h
    have h1 := Nat.eq_of_beq_eq_true h1
    obtain ⟨ti, ht, hs⟩ := nX h2
    rw [List.mapM_cons] at hm
    simp only [Option.bind_eq_bind, Option.bind_eq_some_iff, Option.pure_def, Option.some.injEq] at hm
    obtain ⟨⟨d, ps⟩, e1, q, e2, rfl⟩ := hm
    rw [fm hte ht, hs, ← h1] at e1
    simp only [Ty.size] at hl
    obtain ⟨x1, k1⟩ := hgo _ _ _ _ _ h3 (by simp; omega) e1 fun n hn => hw n (by simp only [List.map_cons, DataW.weightsEach, List.mem_append]; exact .inl hn)
    obtain ⟨x2, k2⟩ := Bw hgo (g :: r) (o + a.size) b q h4 (by omega) e2 fun n hn => hw n (by simp only [List.map_cons, DataW.weightsEach, List.mem_append] at hn ⊢; exact .inr hn)
    refine ⟨(x1, x2), ?_⟩
    simp only [Rep]
    refine ⟨by simp; omega, k1, ?_⟩
    rw [List.drop_drop]
    exact k2
theorem WU {go : TypeId → Ty → Bool} {fuel : Nat} {cs : List Value} {e : TypeId} {t : Ty} {ei : TI} (he : te e = some ei) (hs : ei.size = t.size)
    (hgo : ∀ c d ps, c.length = t.size → DataW.trod enc P w 0 sp true fuel e c = some (d, ps) → (∀ n ∈ d.weights P e, n ≤ reachBytes) → ∃ x, Rep (Dt w) t x c) {m : Nat} (hl : cs.length = m * t.size) {xs : List (DataW H × List MemPlace)}
    (hm : ((List.range m).mapM fun i => DataW.trod enc P w 0 sp true fuel e ((cs.drop (i * P.cellsOf e)).take (P.cellsOf e))) = some xs)
    (hw : ∀ n ∈ DataW.weightsAll P e (xs.map (·.1)), n ≤ reachBytes) : ∀ i, i < m → ∃ x, Rep (Dt w) t x (seg cs (i * t.size) t.size) := fun i hi => by
  obtain ⟨h1, h2⟩ := w6 hm
  rw [List.length_range] at h1
  have := h2 i (by simpa using hi) (by omega)
  rw [List.getElem_range, fm hte he, hs] at this
  have hle : (i + 1) * t.size ≤ m * t.size := Nat.mul_le_mul_right _ hi
  rw [Nat.succ_mul] at hle
  refine hgo _ (xs[i]'(by omega)).1 (xs[i]'(by omega)).2 (dG (by omega)) this fun n hn => hw n (iM (List.mem_map.2 ⟨xs[i]'(by omega), List.getElem_mem _, rfl⟩) n hn)
omit hte in
theorem abh {fuel : Nat} {e : TypeId} {c : Value} {d : DataW H} {ps : List MemPlace} (hu : P.underlying e = some (.int .u64)) (hr : DataW.trod enc P w 0 sp true fuel e [c] = some (d, ps)) : ∃ x : UInt64, c = eo x := by
  cases fuel with
  | zero => simp [DataW.trod] at hr
  | succ fuel =>
    simp only [DataW.trod, hu] at hr
    cases c <;> simp only at hr <;> try (cases hr; done)
    rename_i k' n
    split at hr
    · rename_i hk
      obtain ⟨rfl, hwf⟩ := hk
      have := bounds_u64 hwf
      refine ⟨UInt64.ofNat n.toNat, ?_⟩
      simp only [eo, UInt64.toNat_ofNat']
      congr 1
      omega
    · cases hr
theorem pg : ∀ (k fuel : Nat) (T : TypeId) (y : Ty) (cs : List Value) (d : DataW H) (ps : List MemPlace), pH te k T y = true → cs.length = y.size → DataW.trod enc P w 0 sp true fuel T cs = some (d, ps) →
    (∀ n ∈ d.weights P T, n ≤ reachBytes) → ∃ x, Rep (Dt w) y x cs
  | 0, _, _, _, _, _, _, h, _, _, _ => by simp [pH] at h
  | k + 1, 0, _, _, _, _, _, _, _, h, _ => by simp [DataW.trod] at h
  | k + 1, fuel + 1, T, y, cs, d, ps, h, hl, hr, hw => by
    simp only [pH] at h
    split at h
    · cases h
    · rename_i ti hT
      obtain ⟨ds, hu, hd⟩ := (hte T ti hT).desc
      have hcells := fm hte hT
      simp only [DataW.trod, hu] at hr
      split at h
      · -- bool
        rename_i he
        rw [he] at hd
        simp only at hd
        subst hd
        match cs, hl with
        | [c], hl1 =>
          cases c <;> simp only [Option.some.injEq] at hr <;> try (cases hr; done)
          exact ⟨_, rfl⟩
      · rename_i he
        rw [he] at hd
        simp only at hd
        subst hd
        match cs, hl with
        | [c], hl1 =>
          cases c <;> simp only at hr <;> try (cases hr; done)
          rename_i k' n
          split at hr
          · rename_i hk
            obtain ⟨rfl, hwf⟩ := hk
            have := bounds_u64 hwf
            refine ⟨UInt64.ofNat n.toNat, ?_⟩
            simp only [Rep, eo, UInt64.toNat_ofNat']
            congr 2
            omega
          · cases hr
      · rename_i he
        rw [he] at hd
        simp only at hd
        subst hd
        match cs, hl with
        | [c], hl1 =>
          cases c <;> simp only at hr <;> try (cases hr; done)
          rename_i k' n
          split at hr
          · rename_i hk
            obtain ⟨rfl, hwf⟩ := hk
            have := bounds_u8 hwf
            refine ⟨UInt8.ofNat n.toNat, ?_⟩
            simp only [Rep, vu8, UInt8.toNat_ofNat']
            congr 2
            omega
          · cases hr
      · rename_i he
        rw [he] at hd
        simp only at hd
        subst hd
        match cs, hl with
        | [c], hl1 =>
          cases c <;> simp only at hr <;> try (cases hr; done)
          rename_i k' n
          split at hr
          · rename_i hk
            obtain ⟨rfl, hwf⟩ := hk
            have := bounds_i64 hwf
            exact ⟨n, rfl, aX (by omega)⟩
          · cases hr
      · rename_i he
        rw [he] at hd
        simp only at hd
        subst hd
        match cs, hl with
        | [c], hl1 =>
          cases c <;> simp only at hr <;> try (cases hr; done)
          rename_i s
          split at hr
          · cases hr
            refine ⟨s.data.toList, ?_⟩
            have := hw s.data.toList.length (by simp [DataW.weights])
            unfold reachBytes at this
            simp only [Rep]
            exact ⟨trivial, by unfold bN; omega⟩
          · cases hr
      · -- four words
        rename_i m e he
        rw [he] at hd
        simp only at hd
        subst hd
        simp only [Bool.and_eq_true] at h
        obtain ⟨h1, h2, h3⟩ := h
        split at h1
        · rename_i ei hei
          rw [Bool.and_eq_true] at h1
          obtain ⟨h4, h5⟩ := h1
          split at h4
          · rename_i hed
            have h2 := Nat.eq_of_beq_eq_true h2
            have h5 := Nat.eq_of_beq_eq_true h5
            subst h2
            obtain ⟨de, hue, hde⟩ := (hte e ei hei).desc
            rw [hed] at hde
            simp only at hde
            subst hde
            have hl4 : cs.length = 4 := hl
            simp only at hr
            rw [if_pos (by rw [hcells]; rw [hl4]; exact (Nat.eq_of_beq_eq_true h3).symm)] at hr
            simp only [Option.map_eq_some_iff] at hr
            obtain ⟨xs, hm, hx⟩ := hr
            obtain ⟨m1, m2⟩ := w6 hm
            rw [List.length_range] at m1
            match cs, hl4 with
            | [c0, c1, c2, c3], hl1 =>
              have key : ∀ i (hi : i < 4), ∃ x : UInt64, [c0, c1, c2, c3][i] = eo x := fun i hi => by
                have := m2 i (by simpa using hi) (by omega)
                rw [List.getElem_range, fm hte hei, h5, Nat.mul_one] at this
                have e2 : ([c0, c1, c2, c3].drop i).take 1 = [[c0, c1, c2, c3][i]] := by
                  rw [List.drop_eq_getElem_cons (by simpa using hi)]
                  rfl
                rw [e2] at this
                exact abh hue this
              obtain ⟨x0, k0⟩ := key 0 (by omega)
              obtain ⟨x1, k1⟩ := key 1 (by omega)
              obtain ⟨x2, k2⟩ := key 2 (by omega)
              obtain ⟨x3, k3⟩ := key 3 (by omega)
              simp only [List.getElem_cons_zero, List.getElem_cons_succ] at k0 k1 k2 k3
              exact ⟨⟨x0, x1, x2, x3⟩, by simp only [Rep, k0, k1, k2, k3]⟩
          · cases h4
        · cases h1
      · -- an array
        rename_i m e k' t he
        rw [he] at hd
        simp only at hd
        subst hd
        simp only [Bool.and_eq_true] at h
        obtain ⟨h1, h2, h3, h4⟩ := h
        have h1 := Nat.eq_of_beq_eq_true h1
        subst h1
        obtain ⟨ei, hei, hs⟩ := nX h2
        have hl' : cs.length = m * t.size := hl
        simp only at hr
        rw [if_pos (by rw [hcells, hl']; exact (Nat.eq_of_beq_eq_true h3).symm)] at hr
        simp only [Option.map_eq_some_iff] at hr
        obtain ⟨xs, hm, hx⟩ := hr
        cases hx
        have key := WU (go := fun _ _ => true) hte hei hs (fun c d ps h1 h2 h3 => pg k fuel e t c d ps h4 h1 h2 h3) hl' hm (fun n hn => hw n (by simp only [DataW.weights, hu]; exact hn))
        obtain ⟨l, l1, l2⟩ := oj (d := t.d) m key
        exact ⟨l, hl', l1, l2⟩
      · -- a slice
        rename_i e t he
        rw [he] at hd
        simp only at hd
        subst hd
        rw [Bool.and_eq_true] at h
        obtain ⟨h1, h4⟩ := h
        split at h1
        · rename_i ei hei
          simp only [Bool.and_eq_true] at h1
          obtain ⟨h1, h2, h3⟩ := h1
          have hs := Nat.eq_of_beq_eq_true h1
          have hpos := cK h2
          have hby := cK h3
          match cs, hl with
          | [c], hl1 =>
            cases c <;> try (exfalso; simp at hr; done)
            rename_i ad len cap
            cases ad with
            | none =>
              rcases len with _ | len
              · rcases cap with _ | cap
                · exact ⟨[], by simp only [Rep]; exact ⟨Nat.zero_le _, none, 0, rfl, Nat.le_refl _, .inl trivial⟩⟩
                · cases hr
              · cases hr
            | some a =>
              simp only at hr
              split at hr
              · rename_i hcond
                obtain ⟨_, hlc, _⟩ := hcond
                simp only [Option.bind_eq_some_iff, Option.map_eq_some_iff] at hr
                obtain ⟨elems, hm, rest, _, hx⟩ := hr
                cases hx
                obtain ⟨m1, m2⟩ := w6 hm
                rw [List.length_range] at m1
                have hwt := hw ((elems.length + rest.length) * P.bytesOf e) (by simp [DataW.weights, hu])
                rw [Q6 hte hei] at hwt
                have hlen : len ≤ bN := by
                  have : elems.length ≤ (elems.length + rest.length) * ei.bytes := Nat.le_trans (Nat.le_add_right _ _) (Nat.le_mul_of_pos_right _ hby)
                  unfold reachBytes at hwt
                  unfold bN
                  omega
                rcases Nat.eq_zero_or_pos len with h0 | h0
                · subst h0
                  exact ⟨[], by simp only [Rep]; exact ⟨Nat.zero_le _, _, _, rfl, Nat.zero_le _, .inl trivial⟩⟩
                · have key : ∀ i, i < len → ∃ c, w.cells? 0 (a.add (i * t.size)) t.size = some c ∧ ∃ x, Rep (Dt w) t x c := fun i hi => by
                    have := m2 i (by simpa using hi) (by omega)
                    rw [List.getElem_range, fm hte hei, hs] at this
                    obtain ⟨c, hc, hrr⟩ := Option.bind_eq_some_iff.1 this
                    refine ⟨c, hc, pg k fuel e t c (elems[i]'(by omega)).1 (elems[i]'(by omega)).2 h4 ?_ hrr fun n hn => hw n ?_⟩
                    · obtain ⟨arr, E, fz, _, _, hle, rfl⟩ := D1 (by omega) hc
                      exact dG (by simpa using hle)
                    · simp only [DataW.weights, hu, List.mem_cons, List.mem_append]
                      exact .inr (.inl (iM (List.mem_map.2 ⟨elems[i]'(by omega), List.getElem_mem _, rfl⟩) n hn))
                  obtain ⟨c0, hc0, _⟩ := key 0 h0
                  rw [Nat.zero_mul] at hc0
                  obtain ⟨arr, E, fz, hb, hsp, _, _⟩ := D1 (by omega) hc0
                  have hb' : w.heap[a.block]? = some (.cells arr E fz) := hb
                  have hsp' : a.spot = none := hsp
                  have at_i : ∀ i, i < len → a.off + i * t.size + t.size ≤ arr.size ∧ ∃ x, Rep (Dt w) t x (seg arr.toList (a.off + i * t.size) t.size) := fun i hi => by
                    obtain ⟨c, hc, x, hx⟩ := key i hi
                    obtain ⟨arr2, E2, fz2, hb2, _, hle, rfl⟩ := D1 (by omega) hc
                    have hblk : (a.add (i * t.size)).block = a.block := by unfold Addr.add; split <;> rfl
                    have hoff : (a.add (i * t.size)).off = a.off + i * t.size := by
                      unfold Addr.add
                      split
                      · rename_i h; rw [h]; rfl
                      · rfl
                    rw [hblk, hb'] at hb2
                    cases hb2
                    rw [hoff] at hle hx
                    exact ⟨hle, x, hx⟩
                  obtain ⟨l, l1, l2⟩ := oj (d := t.d) len fun i hi => (at_i i hi).2
                  refine ⟨l, ?_⟩
                  simp only [Rep]
                  refine ⟨by omega, some a, cap, by rw [l1], by omega, .inr ⟨a.block, a.off, arr, E, fz, ?_, hb', ?_, fun i hi => l2 i (by omega)⟩⟩
                  · obtain ⟨blk, off, spot⟩ := a
                    simp only at hsp'
                    rw [hsp']
                  · have := (at_i (len - 1) (by omega)).1
                    have e2 : (len - 1) * t.size + t.size = len * t.size := by
                      rw [← Nat.succ_mul]
                      congr 1
                      omega
                    rw [l1]
                    omega
              · cases hr
        · cases h1
      · -- a struct
        rename_i y _ _ fs he
        rw [he] at hd
        simp only at hd
        obtain ⟨fields, rfl, hf, _⟩ := hd
        rw [Bool.and_eq_true] at h
        have hsz := Nat.eq_of_beq_eq_true h.1
        simp only at hr
        rw [if_pos (by rw [hcells, hl]; exact hsz.symm)] at hr
        simp only [Option.map_eq_some_iff] at hr
        obtain ⟨xs, hm, hx⟩ := hr
        cases hx
        have h2 := h.2
        rw [← hf] at h2
        have := Bw hte (go := pH te k) (cs := cs) (fun T y c d ps a b c' d' => pg k fuel T y c d ps a b c' d') fields.toList 0 y xs h2 (by omega) hm (fun n hn => hw n (by simp only [DataW.weights, hu]; exact hn))
        simpa using this
      · cases h
end
end Sx
end Go.Proofs.Ytohjofabochgfaa

namespace Go.Proofs.Ytohjofabochgfaa
namespace Sx
open Go Go.RowKit Go.ChangeShapes Go.WideShapes Go.ChangeAt
def WV (te : TE) (k : Nat) : List TypeId → List (Bool × Ty) → Bool
  | [], [] => true
  | T :: ts, (b, y) :: r => (match te T with
    | some ti => (b == ti.desc.agg) && Nat.beq ti.size y.size
    | none => false) && (pH te k T y && WV te k ts r)
  | _, _ => false
section
variable {H : Type} {enc : TypeId × Value → H} {P : Program} {te : TE} (hte : iS P te) {w : World} {sp : Nat → Bool}
include hte
theorem Y4 {k : Nat} {T : TypeId} {y : Ty} {ti : TI} {v : Value} {d : DataW H} {ps : List MemPlace} (hT : te T = some ti) (hs : ti.size = y.size) (hp : pH te k T y = true) {base : Nat} (hok : Value.okWide P w .any base T v)
    (h : DataW.Trod enc P w 0 sp true T v d ps) (hw : ∀ n ∈ d.weights P T, n ≤ reachBytes) : ∃ x : y.T, SV.rel (eG w) (inj ti.desc.agg y x) v := by
  obtain ⟨fuel, hf⟩ := h
  obtain ⟨ds, hu, hd⟩ := (hte T ti hT).desc
  cases hagg : ti.desc.agg
  · have hone : v.cells.toList = [v] ∧ v.oneCell' = true := by
      have hc : Cell.okWide P w .any base T v := by
        unfold Value.okWide at hok
        rw [hu] at hok
        cases ds <;> first | exact hok | skip
        all_goals (
          cases hk : ti.desc <;> rw [hk] at hd hagg <;> simp only [TD.agg] at hd hagg <;>
            first | (cases hagg; done) | (cases hd; done) | (obtain ⟨e, he⟩ := hd; cases he; done) | (obtain ⟨⟨e, he⟩, _⟩ := hd; cases he; done) | exact absurd hd id)
      unfold Cell.okWide Cell.ok at hc
      rw [hu] at hc
      cases v <;> first | exact ⟨rfl, rfl⟩ | (exfalso; cases ds <;> first | exact hc | (simp at hc; done))
    rw [hone.1] at hf
    have hsz : y.size = 1 := by rw [← hs]; exact (hte T ti hT).one hagg
    obtain ⟨x, hx⟩ := pg hte k fuel T y [v] d ps hp (by rw [hsz]; rfl) hf hw
    refine ⟨x, ?_⟩
    have hr := dH (R := eG w) y x [v] hx
    simp only [inj, kt, Bool.false_eq_true, if_false]
    have hl := ey y x
    rw [hsz] at hl
    match hc : unpack y x, hl with
    | [u], _ =>
      rw [hc] at hr
      obtain ⟨v', e, h⟩ := bI hr
      cases e
      exact h
  · have hv : ∃ cs, v = .agg cs ∧ cs.size = P.cellsOf T := by
      unfold Value.okWide at hok
      rw [hu] at hok
      cases hk : ti.desc <;> rw [hk] at hd hagg <;> simp only [TD.agg] at hd hagg <;> try (cases hagg; done)
      · obtain ⟨fields, rfl, _⟩ := hd
        obtain ⟨cs, h1, h2, _⟩ := hok
        exact ⟨cs, h1, h2⟩
      · subst hd
        obtain ⟨cs, h1, h2, _⟩ := hok
        exact ⟨cs, h1, h2⟩
    obtain ⟨cs, rfl, hsz⟩ := hv
    obtain ⟨x, hx⟩ := pg hte k fuel T y cs.toList d ps hp (by rw [Array.length_toList, hsz, fm hte hT, hs]) hf hw
    exact ⟨x, pM (dH (R := eG w) y x _ hx) (kk _ _ _ hx)⟩
theorem F9 {k base : Nat} : ∀ {ts : List TypeId} {kd : List (Bool × Ty)} {vs : List Value} {ds : List (DataW H)} {ps : List MemPlace}, WV te k ts kd = true →
    (∀ (j : Nat) t v, ts[j]? = some t → vs[j]? = some v → Value.okWide P w .any base t v) → DataW.TrodAll enc P w 0 sp true ts vs ds ps → (DataW.weightsEach P ts ds).all (· ≤ reachBytes) = true →
    ∃ x : ATy kd, SV.bg (eG w) (aaL kd x) vs
  | [], [], [], [], _, _, _, _, _ => ⟨(), by simp only [aaL, SV.bg]⟩
  | [], [], v :: vs, _, _, _, _, h, _ => by simp [DataW.TrodAll] at h
  | [], [], [], d :: ds, _, _, _, h, _ => by simp [DataW.TrodAll] at h
  | [], a :: kd, _, _, _, h, _, _, _ => by simp [WV] at h
  | T :: ts, [], _, _, _, h, _, _, _ => by simp [WV] at h
  | T :: ts, (b, y) :: kd, [], _, _, _, _, h, _ => by simp [DataW.TrodAll] at h
  | T :: ts, (b, y) :: kd, v :: vs, [], _, _, _, h, _ => by simp [DataW.TrodAll] at h
  | T :: ts, (b, y) :: kd, v :: vs, d :: ds, ps, h, hok, ht, hw => by
    obtain ⟨p, q, h1, h2, rfl⟩ := ht
    simp only [WV, Bool.and_eq_true] at h
    obtain ⟨hb, hp, hr⟩ := h
    split at hb
    · rename_i ti hT
      rw [Bool.and_eq_true] at hb
      have e1 : b = ti.desc.agg := by simpa using hb.1
      subst e1
      simp only [DataW.weightsEach, List.all_append, Bool.and_eq_true] at hw
      obtain ⟨x, hx⟩ := Y4 hte hT (Nat.eq_of_beq_eq_true hb.2) hp (hok 0 T v rfl rfl) h1 fun n hn => by simpa using List.all_eq_true.1 hw.1 n hn
      obtain ⟨xs, hxs⟩ := F9 hr (fun j t u h1 h2 => hok (j + 1) t u h1 h2) h2 hw.2
      exact ⟨(x, xs), by simp only [aaL, SV.bg]; exact ⟨v, vs, rfl, hx, hxs⟩⟩
    · cases hb
end
theorem YH {S : ak} {pre : S.T → Bool} {F : S.T → OT S.Y} {args : List SV} {X : S.T} {out : Out} (hp : S.inp.prj ⟨args, UA⟩ = some X) (hpre : pre X = true)
    (hr : ((F X).bind fun oy => S.emit (S.inp.bd ⟨args, UA⟩) 0 UA oy.1 oy.2).run = some out) : ((S.aE pre F).f 0 args UA).run = some out := by
  simp only [ak.aE, hp, hpre]
  exact hr
theorem B8 {H : Type} {enc : TypeId × Value → H} {P : Program} {w w' : World} (hl : laidOutB P = true) (hb : Below w.heap.size w w') : ∀ {ts : List TypeId} {vs : List Value} {ds : List (DataW H)} {ps : List MemPlace},
    ts.all (fun t => P.readableRec t && Nat.blt t P.types.size) = true → DataW.TrodAll enc P w 0 (fun _ => true) true ts vs ds ps → DataW.TrodAll enc P w' 0 (fun b => decide (b < w.heap.size)) true ts vs ds ps
  | [], [], [], _, _, h => h
  | [], v :: vs, _, _, _, h => by simp [DataW.TrodAll] at h
  | [], [], d :: ds, _, _, h => by simp [DataW.TrodAll] at h
  | T :: ts, [], _, _, _, h => by simp [DataW.TrodAll] at h
  | T :: ts, v :: vs, [], _, _, h => by simp [DataW.TrodAll] at h
  | T :: ts, v :: vs, d :: ds, ps, hr, h => by
    obtain ⟨p, q, h1, h2, rfl⟩ := h
    simp only [List.all_cons, Bool.and_eq_true] at hr
    have lt1 : ∀ x ∈ p, x.block < w.heap.size := by obtain ⟨m, hm⟩ := h1; exact DataW.trod_lt m _ _ _ hm
    exact ⟨p, q, Below.trod hl hr.1.1 (cK hr.1.2) h1 hb lt1, B8 hl hb hr.2 h2, rfl⟩
end Sx
end Go.Proofs.Ytohjofabochgfaa

namespace Go.Proofs.Ytohjofabochgfaa
namespace Sx
open Go
theorem aaR {P : Program} {f : FuncId} {S : ak} {k : Nat} (hk : S.chunks.all (fun c => Nat.blt c.1 k && !c.2.pR) = true) {pre : S.T → Bool} {F : S.T → OT S.Y}
    (h : ∀ (x : S.T) (oy : S.Y) (vs : List Value) (N : Ctx) (w : World), pre x = true → (F x).run = some oy → SV.bg N (S.inp.inj x).tm vs →
      ∃ v u, (callFunc f vs.toArray).run P w = .ok (.value u) w ∧ SV.rel N v u ∧ oy.1.is oy.2 false v (cM S.chunks x.2)) : ab P f (S.aE pre F) := by
  refine ⟨?_⟩
  intro R w d args vs out hm hr hrun
  simp only [ak.aE] at hrun
  split at hrun
  · cases hrun
  · rename_i x hx
    obtain ⟨hpre, h2⟩ := OT.au hrun
    obtain ⟨oy, h3, h4⟩ := OT.run_bind h2
    unfold ak.emit at h4
    dsimp only at h4
    obtain ⟨hend, h5⟩ := OT.au h4
    have hx' := hx
    unfold Shape.prj at hx'
    dsimp only at hx'
    cases hbo : S.inp.zM ⟨args, R.hp⟩ (S.inp.bd ⟨args, R.hp⟩) && Nat.beq args.length S.inp.n
    · rw [hbo] at hx'; cases hx'
    · rw [hbo] at hx'
      rw [Bool.and_eq_true] at hbo
      obtain ⟨hx1, hx2⟩ := aZ hx'
      have hlen : args.length = S.inp.n := Nat.eq_of_beq_eq_true hbo.2
      have hN := Dd (s := S.inp) (st := ⟨args, R.hp⟩) (F' := R.uh (S.inp.bd ⟨args, R.hp⟩) S.bf w) (U' := R.zU (S.inp.bd ⟨args, R.hp⟩) S.bf w) hbo.1 hx2 rfl hm (Gp hm) (Dl hm) UU (Gn hm) Gm aaK hm.env
      have hargs : SV.bg (R.named (R.uh (S.inp.bd ⟨args, R.hp⟩) S.bf w) (R.zU (S.inp.bd ⟨args, R.hp⟩) S.bf w) (S.inp.bd ⟨args, R.hp⟩) (cM S.chunks x.2)) (S.inp.inj x).tm vs :=
        iy (s := S.inp) (st := ⟨args, R.hp⟩) hbo.1 hx2 rfl hm (Gp hm) (Dl hm) hr hx1 (SV.r7 (by rw [List.length_replicate, ← hlen]; exact SV.aF hr) fun i hi hi' => by simp [SV.rel])
      obtain ⟨v, u, hv, hru, his⟩ := h x oy vs _ w hpre h3 hargs
      obtain ⟨R', a1, a2⟩ := Vy hm hx hk (Ctx.Ext.refl _) hN hru his hend
      rw [his.1] at h5
      cases h5
      exact .inr ⟨u, w, hv, u, R', rfl, a1, a2⟩
end Sx
end Go.Proofs.Ytohjofabochgfaa

namespace Go.Proofs.Ytohjofabochgfaa
namespace Sx
open Go
def Out.after (u : List (Nat × Ch)) : Out → Out
  | .ret e => .ret ⟨e.v, u ++ e.upd⟩
  | .pan v u' => .pan v (u ++ u')
def Xv (c0 e0 : Nat) (vs : List SV) (j c e : Nat) (t : Ty) (xs : List t.T) : List (Nat × Ch) := [(c, ⟨e + 1, .row .u8 []⟩), (c0, ⟨e0, .cells (vs.set j (.lst t xs))⟩)]
def Xw (s : bO) (j : Nat) (d : Nat) (args : List SV) (hp : Hp) (c0 e0 : Nat) (vs : List SV) : Option SV → OT Out
  | some (.own c e) => match cS hp c e with
    | some (.row t xs) => cond (Nat.beq c c0) .fail ((s.f d args (cL hp (Xv c0 e0 vs j c e t xs))).map (Out.after (Xv c0 e0 vs j c e t xs)))
    | some _ => s.f d args hp
    | none => .fail
  | _ => s.f d args hp
def afE (k j : Nat) (s : bO) : bO := ⟨true, fun d args hp =>
  match args.getD k .bu with
  | .ptr c0 e0 0 0 => match cS hp c0 e0 with
    | some (.cells vs) => Xw s j d args hp c0 e0 vs vs[j]?
    | some _ => s.f d args hp
    | none => .fail
  | _ => s.f d args hp⟩
theorem J2 {α β : Type} {f : α → β} {x : OT α} {a : α} (h : x.run = some a) : (x.map f).run = some (f a) := by
  induction x with
  | ok b => cases h; rfl
  | br b u v hu hv =>
    cases b
    · exact hv h
    · exact hu h
  | fail => cases h
theorem cn.trans {R R1 R2 : Ctx} {w w' : World} {u u' : List (Nat × Ch)} (h : cn R R1 w u) (h' : cn R1 R2 w' u') : cn R R2 w' (u ++ u') :=
  ⟨h.ext.trans h'.ext, by rw [h'.hp, h.hp, ec], h'.mem⟩
theorem Mi {R : Ctx} {w : World} (hm : ci R w) {c e : Nat} {t : Ty} {xs : List t.T} (hc : R.hp c = some ⟨e, .row t xs⟩) :
    ∃ R1, cn R R1 w [(c, ⟨e + 1, .row .u8 []⟩)] ∧ ∀ v, R.own c e v → SV.rel R1 (.lst t xs) v := by
  have h0 := hm.ch c _ hc
  cases hσ : R.σ c with
  | none =>
    simp only [cW, hσ] at h0
    obtain ⟨_, hl, rfl⟩ := h0
    have hx : R.Ext (R.upd c ⟨e + 1, .row .u8 []⟩) := ⟨fun _ _ h => h, rfl, fun c' ch' hc' => by
      by_cases h1 : c' = c
      · subst h1
        rw [hc] at hc'
        cases hc'
        exact ⟨⟨e + 1, .row .u8 []⟩, by simp only [Ctx.upd, if_true], Nat.le_succ e, fun e' => absurd e' (by simp)⟩
      · exact ⟨ch', by simp only [Ctx.upd, if_neg h1, hc'], Nat.le_refl _, fun _ => ⟨rfl, rfl⟩⟩⟩
    refine ⟨R.upd c ⟨e + 1, .row .u8 []⟩, ⟨hx, rfl, ?_⟩, fun v hv => ?_⟩
    · refine ci.turn hm hx rfl rfl (fun _ _ => rfl) w.heap.size (fun _ _ _ => rfl) ⟨hm.EA, hm.Ev, fun n ch L hn h1 h2 h3 => ?_⟩ ?_ (fun L h2 => ?_)
      · have := hm.lt h1 h2 h3; omega
      · simp only [cW, Ctx.upd, hσ]
        exact ⟨by decide, by simp, trivial⟩
      · have h2 : R.σ c = some L := h2
        rw [hσ] at h2; cases h2
    · have hp := Ctx.bZ hc hv
      obtain ⟨_, _, ad, cap, rfl, h4, h5⟩ := Ctx.cb hc hp
      simp only [SV.rel, Rep]
      exact ⟨Nat.zero_le _, ad, cap, rfl, h4, .inl trivial⟩
  | some L =>
    simp only [cW, hσ] at h0
    obtain ⟨hpos, hl, hF, hU, arr, E, k1, k2, k3, k4⟩ := h0
    have ha := Dj hm hc hσ (w₁ := w) (fun _ _ => rfl) k1 ⟨rfl, rfl, rfl⟩
    refine ⟨_, ha, fun v hv => ?_⟩
    have hp := Ctx.bZ hc hv
    obtain ⟨_, _, ad, cap, rfl, h4, h5⟩ := Ctx.cb hc hp
    rw [hσ] at h5
    simp only [Chunk.shape, Nat.zero_mul, Nat.add_zero] at h4 h5
    simp only [SV.rel, Rep]
    refine ⟨hl, ad, cap, rfl, h4, ?_⟩
    by_cases hx : xs = []
    · exact .inl hx
    · have hxl : 0 < xs.length := List.length_pos_iff.2 hx
      have had := h5.2 (by omega)
      subst had
      exact .inr ⟨L.block, L.base, arr, E, (0, 0), rfl, by simp only [Ctx.ij, if_true], by omega, fun i hi => bh ha.ext.F _ _ _ (k4 i hi)⟩
theorem r6 {R : Ctx} : ∀ {l : List SV} {vs : List Value} (j : Nat) (x : SV), SV.bg R l vs → (∀ v, vs[j]? = some v → SV.rel R x v) → SV.bg R (l.set j x) vs
  | [], _, _, _, h, _ => h
  | y :: l, vs, 0, x, h, hx => by
    simp only [SV.bg] at h
    obtain ⟨v, r, rfl, h1, h2⟩ := h
    simp only [List.set_cons_zero, SV.bg]
    exact ⟨v, r, rfl, hx v rfl, h2⟩
  | y :: l, vs, j + 1, x, h, hx => by
    simp only [SV.bg] at h
    obtain ⟨v, r, rfl, h1, h2⟩ := h
    simp only [List.set_cons_succ, SV.bg]
    exact ⟨v, r, rfl, h1, r6 j x h2 fun u hu => hx u hu⟩
theorem Jx {R : Ctx} : ∀ {l : List SV} {vs : List Value} {j : Nat} {x : SV}, SV.bg R l vs → l[j]? = some x → ∃ v, vs[j]? = some v ∧ SV.rel R x v
  | y :: l, vs, 0, x, h, hx => by
    simp only [SV.bg] at h
    obtain ⟨v, r, rfl, h1, h2⟩ := h
    cases hx
    exact ⟨v, rfl, h1⟩
  | y :: l, vs, j + 1, x, h, hx => by
    simp only [SV.bg] at h
    obtain ⟨v, r, rfl, h1, h2⟩ := h
    exact Jx (j := j) h2 hx
  | [], _, _, _, _, hx => by cases hx
theorem Pw {R : Ctx} {w : World} (hm : ci R w) {c0 e0 j c e : Nat} {vs : List SV} {t : Ty} {xs : List t.T} (h0 : R.hp c0 = some ⟨e0, .cells vs⟩) (hj : vs[j]? = some (.own c e)) (hc : R.hp c = some ⟨e, .row t xs⟩) (hne : c ≠ c0) :
    ∃ R1, cn R R1 w (Xv c0 e0 vs j c e t xs) := by
  obtain ⟨R1, ha, hrel⟩ := Mi hm hc
  have hch := hm.ch c0 _ h0
  simp only [cW] at hch
  obtain ⟨L, hL, hF, hU, arr, E, k1, k2, k3, k4, k5⟩ := hch
  have h0' : R1.hp c0 = some ⟨e0, .cells vs⟩ := by
    rw [ha.hp]
    show (if c0 = c then _ else R.hp c0) = _
    rw [if_neg (fun e => hne e.symm)]
    exact h0
  have hch1 := ha.mem.ch c0 _ h0'
  simp only [cW] at hch1
  obtain ⟨L1, hL1, hF1, hU1, arr1, E1, q1, q2, q3, q4, q5⟩ := hch1
  obtain ⟨ch', hc1, hep, hsame⟩ := ha.ext.ch c0 _ h0
  have hL1' : R1.σ c0 = R.σ c0 := by
    rw [h0'] at hc1
    cases hc1
    exact (hsame rfl).2
  rw [hL1', hL] at hL1
  cases hL1
  rw [k1] at q1
  cases q1
  obtain ⟨v, hv, hvr⟩ := Jx k4 hj
  simp only [SV.rel] at hvr
  have hx : R1.Ext (R1.upd c0 ⟨e0, .cells (vs.set j (.lst t xs))⟩) := Ctx.I2 h0' (Nat.le_refl _) (fun _ => by simp only [Chunk.shape, List.length_set])
  refine ⟨R1.upd c0 ⟨e0, .cells (vs.set j (.lst t xs))⟩, ha.ext.trans hx, ?_, ?_⟩
  · show (fun n => if n = c0 then some _ else R1.hp n) = _
    rw [ha.hp]
    rfl
  · refine ci.turn ha.mem hx rfl rfl (fun _ _ => rfl) L.block (fun _ _ _ => rfl) ⟨hF1, hU1, fun n ch2 L2 hn hn2 hm2 hs2 heq => hn (ha.mem.apart n c0 _ _ L2 L hn2 h0' hm2 rfl hs2 (hL1'.trans hL) heq)⟩ ?_ (fun L2 h2 => ?_)
    · simp only [cW]
      refine ⟨L, hL1'.trans hL, hF1, hU1, arr, E, k1, k2, by rw [List.length_set]; exact k3, ?_, k5⟩
      refine SV.cB hx _ _ (r6 j _ q4 fun u hu => ?_)
      rw [hv] at hu
      cases hu
      exact hrel _ hvr.2
    · have h3 : R1.σ c0 = some L2 := h2
      rw [hL1', hL] at h3
      cases h3
      rfl
end Sx
end Go.Proofs.Ytohjofabochgfaa

namespace Go.Proofs.Ytohjofabochgfaa
namespace Sx
open Go
def P5 (u : List (Nat × Ch)) (c e : Nat) : Option Chunk := match cL UA u c with
  | some ⟨ep, b⟩ => cond (Nat.beq ep e) (some b) none
  | none => none
theorem Ba {u : List (Nat × Ch)} {c e : Nat} {b : Chunk} (h : P5 u c e = some b) {hp : Hp} : cL hp u c = some ⟨e, b⟩ := by
  unfold P5 at h
  split at h
  · rename_i ep b' hq
    cases hb : Nat.beq ep e
    · rw [hb] at h; cases h
    · rw [hb] at h
      cases h
      rw [Nat.eq_of_beq_eq_true hb] at hq
      by_cases hin : c ∈ aM u
      · rw [C4 u hin (hp' := UA)]; exact hq
      · rw [cl u hin] at hq; cases hq
  · cases h
def hop (u : List (Nat × Ch)) : List Nat → SV → Option (Nat × Nat)
  | [], .ptr c e 0 0 => some (c, e)
  | [], .iface _ (.ptr c e 0 0) => some (c, e)
  | i :: r, .ptr c e 0 0 => match P5 u c e with
    | some (.cells vs) => hop u r (vs.getD i .bu)
    | _ => none
  | i :: r, .iface _ (.ptr c e 0 0) => match P5 u c e with
    | some (.cells vs) => hop u r (vs.getD i .bu)
    | _ => none
  | _, _ => none
def ae1 : SV → SV
  | .tup (x :: _) => x
  | x => x
def afK (path : List Nat) (j : Nat) (v : SV) (u : List (Nat × Ch)) : List (Nat × Ch) :=
  match hop u path (ae1 v) with
  | some (c0, e0) => match P5 u c0 e0 with
    | some (.cells vs) => match vs[j]? with
      | some (.own c e) => match P5 u c e with
        | some (.row t xs) => cond (Nat.beq c c0) [] (Xv c0 e0 vs j c e t xs)
        | _ => []
      | _ => []
    | _ => []
  | none => []
def Out.afE (path : List Nat) (j : Nat) : Out → Out
  | .ret e => .ret ⟨e.v, e.upd ++ afK path j e.v e.upd⟩
  | .pan v u => .pan v u
def wk (path : List Nat) (j : Nat) (s : bO) : bO := ⟨s.mod, fun d args hp => (s.f d args hp).map (Out.afE path j)⟩
theorem P0 {R R' : Ctx} {w : World} {path : List Nat} {j : Nat} {v : SV} {u : List (Nat × Ch)} (h : cn R R' w u) : ∃ R1, cn R' R1 w (afK path j v u) := by
  unfold afK
  split
  · rename_i c0 e0 _
    split
    · rename_i vs h0
      split
      · rename_i c e hj
        split
        · rename_i t xs hc
          cases hb : Nat.beq c c0
          · have hne : c ≠ c0 := fun e => by subst e; simp at hb
            exact Pw h.mem (by rw [h.hp]; exact Ba h0) hj (by rw [h.hp]; exact Ba hc) hne
          · exact ⟨R', cn.nothing h.mem⟩
        · exact ⟨R', cn.nothing h.mem⟩
      · exact ⟨R', cn.nothing h.mem⟩
    · exact ⟨R', cn.nothing h.mem⟩
  · exact ⟨R', cn.nothing h.mem⟩
theorem Px {P : Program} {f : FuncId} {s : bO} {path : List Nat} {j : Nat} (h : ab P f s) : ab P f (wk path j s) := by
  refine ⟨fun R w d args vs out hm hr hrun => ?_⟩
  simp only [wk] at hrun
  obtain ⟨out', h1, rfl⟩ := OT.run_map hrun
  have hpost : ∀ en w', iL R out' en w' → iL R (Out.afE path j out') en w' := fun en w' hp => by
    cases out' with
    | ret q =>
      obtain ⟨v, R', h2, h3, h4⟩ := hp
      obtain ⟨R1, h5⟩ := P0 (path := path) (j := j) (v := q.v) h3
      exact ⟨v, R1, h2, h3.trans h5, SV.Jw h5.ext _ _ h4⟩
    | pan q u => exact hp
  rcases h.calls R w d args vs out' hm hr h1 with ⟨fn, f1, f2, f3, hcl⟩ | ⟨v, w', hv, hp⟩
  · exact .inl ⟨fn, f1, f2, f3, hcl.mono hpost⟩
  · exact .inr ⟨v, w', hv, hpost _ _ hp⟩
theorem Fo {s : bO} {path : List Nat} {j : Nat} (h : aD s) : aD (wk path j s) := fun d args hp hp' out hg hrun => by
  simp only [wk] at hrun ⊢
  obtain ⟨out', h1, rfl⟩ := OT.run_map hrun
  exact J2 (h d args hp hp' out' hg h1)
def Wf (s0 s1 : bO) : bO := ⟨s0.mod || s1.mod, fun d args hp => match args.getD 0 .bu with
  | .ptr _ _ _ 1 => s1.f d args hp
  | _ => s0.f d args hp⟩
theorem ZQ {P : Program} {f : FuncId} {s0 s1 : bO} (h0 : ab P f s0) (h1 : ab P f s1) : ab P f (Wf s0 s1) := by
  refine ⟨fun R w d args vs out hm hr hrun => ?_⟩
  simp only [Wf] at hrun
  split at hrun
  · exact h1.calls R w d args vs out hm hr hrun
  · exact h0.calls R w d args vs out hm hr hrun
theorem Q7 {s0 s1 : bO} (h0 : aD s0) (h1 : aD s1) : aD (Wf s0 s1) := fun d args hp hp' out hg hrun => by
  simp only [Wf] at hrun ⊢
  split at hrun
  · exact h1 d args hp hp' out hg hrun
  · exact h0 d args hp hp' out hg hrun
def kB (k : Nat) (s : bO) : bO := ⟨true, fun d args hp => match args.getD k .bu with
  | .own c e => match cS hp c e with
    | some (.row t xs) => (s.f d (args.set k (.lst t xs)) (cL hp [(c, ⟨e + 1, .row .u8 []⟩)])).map (Out.after [(c, ⟨e + 1, .row .u8 []⟩)])
    | some _ => s.f d args hp
    | none => .fail
  | _ => s.f d args hp⟩
theorem me {P : Program} {f : FuncId} {s : bO} {k : Nat} (h : ab P f s) : ab P f (kB k s) := by
  refine ⟨fun R w d args vs out hm hr hrun => ?_⟩
  simp only [kB] at hrun
  split at hrun
  · rename_i c e harg
    split at hrun
    · rename_i t xs hc
      obtain ⟨out', h1, rfl⟩ := OT.run_map hrun
      obtain ⟨R1, ha, hrel⟩ := Mi hm (bD hc)
      rw [← show R1.hp = cL R.hp [(c, ⟨e + 1, .row .u8 []⟩)] from ha.hp] at h1
      have hr1 : SV.bg R1 (args.set k (.lst t xs)) vs := r6 k _ (SV.cB ha.ext _ _ hr) fun v hv => by
        have hk : args[k]? = some (.own c e) := by
          rw [List.getD_eq_getElem?_getD] at harg
          cases hq : args[k]? with
          | none => rw [hq] at harg; cases harg
          | some y => rw [hq] at harg; exact congrArg some harg
        obtain ⟨v', hv', hvr⟩ := Jx hr hk
        rw [hv] at hv'
        cases hv'
        simp only [SV.rel] at hvr
        exact hrel v hvr.2
      have hpost : ∀ en w', iL R1 out' en w' → iL R (Out.after [(c, ⟨e + 1, .row .u8 []⟩)] out') en w' := fun en w' hp => by
        cases out' with
        | ret q =>
          obtain ⟨v, R', h2, h3, h4⟩ := hp
          exact ⟨v, R', h2, ha.trans h3, h4⟩
        | pan q u =>
          obtain ⟨v, R', h2, h3, h4⟩ := hp
          exact ⟨v, R', h2, ha.trans h3, h4⟩
      rcases h.calls R1 w d _ vs out' ha.mem hr1 h1 with ⟨fn, f1, f2, f3, hcl⟩ | ⟨v, w', hv, hp⟩
      · exact .inl ⟨fn, f1, f2, f3, hcl.mono hpost⟩
      · exact .inr ⟨v, w', hv, hpost _ _ hp⟩
    · exact h.calls R w d args vs out hm hr hrun
    · cases hrun
  · exact h.calls R w d args vs out hm hr hrun
theorem io {s : bO} {k : Nat} (h : aD s) : aD (kB k s) := fun d args hp hp' out hg hrun => by
  simp only [kB] at hrun ⊢
  split at hrun
  · split at hrun
    · rename_i t xs hc
      rw [bw hg hc]
      simp only
      obtain ⟨out', h1, rfl⟩ := OT.run_map hrun
      refine J2 (h d _ _ _ out' ⟨fun n ch hn => ?_, fun n hn hn0 => ?_⟩ h1)
      · simp only [cL] at hn ⊢
        split
        · rename_i h2; rw [if_pos h2] at hn; exact hn
        · rename_i h2; rw [if_neg h2] at hn; exact hg.fQ _ _ hn
      · simp only [cL] at hn0 ⊢
        split
        · rename_i h2; rw [if_pos h2] at hn0; cases hn0
        · rename_i h2; rw [if_neg h2] at hn0; exact hg.free _ hn hn0
    · rename_i b hnr hc
      rw [bw hg hc]
      cases b <;> first | exact h _ _ _ _ _ hg hrun | exact absurd rfl (hnr _ _)
    · cases hrun
  · exact h _ _ _ _ _ hg hrun
end Sx
end Go.Proofs.Ytohjofabochgfaa

namespace Go.Proofs.Ytohjofabochgfaa
open Sx Go
set_option maxRecDepth 100000
def aaB : TI := ⟨1, 8, .other, [.bu], none⟩
theorem aeF : aT Try.prog 1 aaB := af (by kernel_rfl) (by kernel_rfl) (by kernel_rfl) (by kernel_rfl) (by kernel_rfl) (by kernel_rfl) (by kernel_rfl) (by kernel_rfl) (by kernel_rfl) (by kernel_rfl) (by kernel_rfl) trivial
def aaA : TI := ⟨1, 8, .int .i64, [.int 0], some .int⟩
theorem aeE : aT Try.prog 2 aaA := af (by kernel_rfl) (by kernel_rfl) (by kernel_rfl) (by kernel_rfl) (by kernel_rfl) (by kernel_rfl) (by kernel_rfl) (by kernel_rfl) (by kernel_rfl) (by kernel_rfl) (by kernel_rfl) ⟨by kernel_rfl, by kernel_rfl, by kernel_rfl⟩
def aaz : TI := ⟨1, 8, .int .i64, [.int 0], some .int⟩
theorem aeD : aT Try.prog 3 aaz := af (by kernel_rfl) (by kernel_rfl) (by kernel_rfl) (by kernel_rfl) (by kernel_rfl) (by kernel_rfl) (by kernel_rfl) (by kernel_rfl) (by kernel_rfl) (by kernel_rfl) (by kernel_rfl) ⟨by kernel_rfl, by kernel_rfl, by kernel_rfl⟩
def aay : TI := ⟨1, 1, .bool, [.bool false], some .bool⟩
theorem aeC : aT Try.prog 4 aay := af (by kernel_rfl) (by kernel_rfl) (by kernel_rfl) (by kernel_rfl) (by kernel_rfl) (by kernel_rfl) (by kernel_rfl) (by kernel_rfl) (by kernel_rfl) (by kernel_rfl) (by kernel_rfl) ⟨by kernel_rfl, by kernel_rfl, by kernel_rfl⟩
def aax : TI := ⟨1, 1, .int .u8, [.u8 0], some .u8⟩
theorem aeB : aT Try.prog 5 aax := af (by kernel_rfl) (by kernel_rfl) (by kernel_rfl) (by kernel_rfl) (by kernel_rfl) (by kernel_rfl) (by kernel_rfl) (by kernel_rfl) (by kernel_rfl) (by kernel_rfl) (by kernel_rfl) ⟨by kernel_rfl, by kernel_rfl, by kernel_rfl⟩
def aaw : TI := ⟨1, 1, .int .u8, [.u8 0], some .u8⟩
theorem aeA : aT Try.prog 6 aaw := af (by kernel_rfl) (by kernel_rfl) (by kernel_rfl) (by kernel_rfl) (by kernel_rfl) (by kernel_rfl) (by kernel_rfl) (by kernel_rfl) (by kernel_rfl) (by kernel_rfl) (by kernel_rfl) ⟨by kernel_rfl, by kernel_rfl, by kernel_rfl⟩
def aav : TI := ⟨4, 24, .struct [(0, 2), (1, 3), (2, 4), (3, 6)], [.int 0, .int 0, .bool false, .u8 0], some (.prod .int (.prod .int (.prod .bool .u8)))⟩
theorem aez : aT Try.prog 7 aav := af (by kernel_rfl) (by kernel_rfl) (by kernel_rfl) (by kernel_rfl) (by kernel_rfl) (by kernel_rfl) (by kernel_rfl) (by kernel_rfl) (by kernel_rfl) (by kernel_rfl) (by kernel_rfl) ⟨by kernel_rfl, by kernel_rfl, by kernel_rfl⟩
def aau : TI := ⟨4, 24, .struct [(0, 2), (1, 3), (2, 4), (3, 6)], [.int 0, .int 0, .bool false, .u8 0], some (.prod .int (.prod .int (.prod .bool .u8)))⟩
theorem aey : aT Try.prog 8 aau := af (by kernel_rfl) (by kernel_rfl) (by kernel_rfl) (by kernel_rfl) (by kernel_rfl) (by kernel_rfl) (by kernel_rfl) (by kernel_rfl) (by kernel_rfl) (by kernel_rfl) (by kernel_rfl) ⟨by kernel_rfl, by kernel_rfl, by kernel_rfl⟩
def aat : TI := ⟨1, 16, .str, [.str []], some .str⟩
theorem aex : aT Try.prog 9 aat := af (by kernel_rfl) (by kernel_rfl) (by kernel_rfl) (by kernel_rfl) (by kernel_rfl) (by kernel_rfl) (by kernel_rfl) (by kernel_rfl) (by kernel_rfl) (by kernel_rfl) (by kernel_rfl) ⟨by kernel_rfl, by kernel_rfl, by kernel_rfl⟩
def TB : TI := ⟨1, 16, .str, [.str []], some .str⟩
theorem acI : aT Try.prog 10 TB := af (by kernel_rfl) (by kernel_rfl) (by kernel_rfl) (by kernel_rfl) (by kernel_rfl) (by kernel_rfl) (by kernel_rfl) (by kernel_rfl) (by kernel_rfl) (by kernel_rfl) (by kernel_rfl) ⟨by kernel_rfl, by kernel_rfl, by kernel_rfl⟩
def TA : TI := ⟨1, 16, .str, [.str []], some .str⟩
theorem acH : aT Try.prog 11 TA := af (by kernel_rfl) (by kernel_rfl) (by kernel_rfl) (by kernel_rfl) (by kernel_rfl) (by kernel_rfl) (by kernel_rfl) (by kernel_rfl) (by kernel_rfl) (by kernel_rfl) (by kernel_rfl) ⟨by kernel_rfl, by kernel_rfl, by kernel_rfl⟩
def Tz : TI := ⟨1, 8, .int .u64, [.u64 0], some .u64⟩
theorem acG : aT Try.prog 12 Tz := af (by kernel_rfl) (by kernel_rfl) (by kernel_rfl) (by kernel_rfl) (by kernel_rfl) (by kernel_rfl) (by kernel_rfl) (by kernel_rfl) (by kernel_rfl) (by kernel_rfl) (by kernel_rfl) ⟨by kernel_rfl, by kernel_rfl, by kernel_rfl⟩
def Tx : TI := ⟨1, 8, .ptr [("Error", 108), ("RuntimeError", 109)], [.kr], none⟩
theorem acF : aT Try.prog 15 Tx := af (by kernel_rfl) (by kernel_rfl) (by kernel_rfl) (by kernel_rfl) (by kernel_rfl) (by kernel_rfl) (by kernel_rfl) (by kernel_rfl) (by kernel_rfl) (by kernel_rfl) (by kernel_rfl) trivial
def Tw : TI := ⟨1, 8, .ptr [("Error", 110), ("RuntimeError", 111)], [.kr], none⟩
theorem acE : aT Try.prog 16 Tw := af (by kernel_rfl) (by kernel_rfl) (by kernel_rfl) (by kernel_rfl) (by kernel_rfl) (by kernel_rfl) (by kernel_rfl) (by kernel_rfl) (by kernel_rfl) (by kernel_rfl) (by kernel_rfl) trivial
def Tv : TI := ⟨1, 8, .ptr [("Align", 112)], [.kr], none⟩
theorem acD : aT Try.prog 17 Tv := af (by kernel_rfl) (by kernel_rfl) (by kernel_rfl) (by kernel_rfl) (by kernel_rfl) (by kernel_rfl) (by kernel_rfl) (by kernel_rfl) (by kernel_rfl) (by kernel_rfl) (by kernel_rfl) trivial
def Tu : TI := ⟨1, 16, .iface, [.cy], none⟩
theorem acC : aT Try.prog 20 Tu := af (by kernel_rfl) (by kernel_rfl) (by kernel_rfl) (by kernel_rfl) (by kernel_rfl) (by kernel_rfl) (by kernel_rfl) (by kernel_rfl) (by kernel_rfl) (by kernel_rfl) (by kernel_rfl) trivial
def Tt : TI := ⟨1, 4, .int .i32, [.bu], none⟩
theorem acB : aT Try.prog 21 Tt := af (by kernel_rfl) (by kernel_rfl) (by kernel_rfl) (by kernel_rfl) (by kernel_rfl) (by kernel_rfl) (by kernel_rfl) (by kernel_rfl) (by kernel_rfl) (by kernel_rfl) (by kernel_rfl) trivial
def Tq : TI := ⟨1, 24, .slice 25, [.emp], some (.list .elem)⟩
theorem acA : aT Try.prog 22 Tq := af (by kernel_rfl) (by kernel_rfl) (by kernel_rfl) (by kernel_rfl) (by kernel_rfl) (by kernel_rfl) (by kernel_rfl) (by kernel_rfl) (by kernel_rfl) (by kernel_rfl) (by kernel_rfl) ⟨by kernel_rfl, by kernel_rfl, by kernel_rfl⟩
def Tp : TI := ⟨1, 8, .int .u64, [.u64 0], some .u64⟩
theorem acz : aT Try.prog 23 Tp := af (by kernel_rfl) (by kernel_rfl) (by kernel_rfl) (by kernel_rfl) (by kernel_rfl) (by kernel_rfl) (by kernel_rfl) (by kernel_rfl) (by kernel_rfl) (by kernel_rfl) (by kernel_rfl) ⟨by kernel_rfl, by kernel_rfl, by kernel_rfl⟩
def To : TI := ⟨4, 32, .array 4 23, [.u64 0, .u64 0, .u64 0, .u64 0], some .elem⟩
theorem acy : aT Try.prog 24 To := af (by kernel_rfl) (by kernel_rfl) (by kernel_rfl) (by kernel_rfl) (by kernel_rfl) (by kernel_rfl) (by kernel_rfl) (by kernel_rfl) (by kernel_rfl) (by kernel_rfl) (by kernel_rfl) ⟨by kernel_rfl, by kernel_rfl, by kernel_rfl⟩
def Tn : TI := ⟨4, 32, .array 4 23, [.u64 0, .u64 0, .u64 0, .u64 0], some .elem⟩
theorem acx : aT Try.prog 25 Tn := af (by kernel_rfl) (by kernel_rfl) (by kernel_rfl) (by kernel_rfl) (by kernel_rfl) (by kernel_rfl) (by kernel_rfl) (by kernel_rfl) (by kernel_rfl) (by kernel_rfl) (by kernel_rfl) ⟨by kernel_rfl, by kernel_rfl, by kernel_rfl⟩
def Tm : TI := ⟨9, 72, .struct [(0, 25), (4, 25), (8, 4)], [.u64 0, .u64 0, .u64 0, .u64 0, .u64 0, .u64 0, .u64 0, .u64 0, .bool false], some (.prod .elem (.prod .elem .bool))⟩
theorem acw : aT Try.prog 26 Tm := af (by kernel_rfl) (by kernel_rfl) (by kernel_rfl) (by kernel_rfl) (by kernel_rfl) (by kernel_rfl) (by kernel_rfl) (by kernel_rfl) (by kernel_rfl) (by kernel_rfl) (by kernel_rfl) ⟨by kernel_rfl, by kernel_rfl, by kernel_rfl⟩
def Tl : TI := ⟨9, 72, .struct [(0, 25), (4, 25), (8, 4)], [.u64 0, .u64 0, .u64 0, .u64 0, .u64 0, .u64 0, .u64 0, .u64 0, .bool false], some (.prod .elem (.prod .elem .bool))⟩
theorem acv : aT Try.prog 27 Tl := af (by kernel_rfl) (by kernel_rfl) (by kernel_rfl) (by kernel_rfl) (by kernel_rfl) (by kernel_rfl) (by kernel_rfl) (by kernel_rfl) (by kernel_rfl) (by kernel_rfl) (by kernel_rfl) ⟨by kernel_rfl, by kernel_rfl, by kernel_rfl⟩
def Tk : TI := ⟨1, 8, .other, [.bu], none⟩
theorem acu : aT Try.prog 28 Tk := af (by kernel_rfl) (by kernel_rfl) (by kernel_rfl) (by kernel_rfl) (by kernel_rfl) (by kernel_rfl) (by kernel_rfl) (by kernel_rfl) (by kernel_rfl) (by kernel_rfl) (by kernel_rfl) trivial
def Tj : TI := ⟨1, 8, .other, [.bu], none⟩
theorem acs : aT Try.prog 29 Tj := af (by kernel_rfl) (by kernel_rfl) (by kernel_rfl) (by kernel_rfl) (by kernel_rfl) (by kernel_rfl) (by kernel_rfl) (by kernel_rfl) (by kernel_rfl) (by kernel_rfl) (by kernel_rfl) trivial
def Ti : TI := ⟨1, 8, .other, [.bu], none⟩
theorem acr : aT Try.prog 30 Ti := af (by kernel_rfl) (by kernel_rfl) (by kernel_rfl) (by kernel_rfl) (by kernel_rfl) (by kernel_rfl) (by kernel_rfl) (by kernel_rfl) (by kernel_rfl) (by kernel_rfl) (by kernel_rfl) trivial
def Th : TI := ⟨2, 32, .struct [(0, 3), (1, 22)], [.int 0, .emp], some (.prod .int (.list .elem))⟩
theorem acq : aT Try.prog 31 Th := af (by kernel_rfl) (by kernel_rfl) (by kernel_rfl) (by kernel_rfl) (by kernel_rfl) (by kernel_rfl) (by kernel_rfl) (by kernel_rfl) (by kernel_rfl) (by kernel_rfl) (by kernel_rfl) ⟨by kernel_rfl, by kernel_rfl, by kernel_rfl⟩
def Tg : TI := ⟨2, 32, .struct [(0, 3), (1, 22)], [.int 0, .emp], some (.prod .int (.list .elem))⟩
theorem acp : aT Try.prog 32 Tg := af (by kernel_rfl) (by kernel_rfl) (by kernel_rfl) (by kernel_rfl) (by kernel_rfl) (by kernel_rfl) (by kernel_rfl) (by kernel_rfl) (by kernel_rfl) (by kernel_rfl) (by kernel_rfl) ⟨by kernel_rfl, by kernel_rfl, by kernel_rfl⟩
def Tf : TI := ⟨1, 8, .ptr [("Bytes", 16), ("Point", 13), ("Scalar", 12), ("sigil/tape.say", 35)], [.kr], none⟩
theorem aco : aT Try.prog 33 Tf := af (by kernel_rfl) (by kernel_rfl) (by kernel_rfl) (by kernel_rfl) (by kernel_rfl) (by kernel_rfl) (by kernel_rfl) (by kernel_rfl) (by kernel_rfl) (by kernel_rfl) (by kernel_rfl) trivial
def Te : TI := ⟨1, 8, .int .i64, [.int 0], some .int⟩
theorem acn : aT Try.prog 34 Te := af (by kernel_rfl) (by kernel_rfl) (by kernel_rfl) (by kernel_rfl) (by kernel_rfl) (by kernel_rfl) (by kernel_rfl) (by kernel_rfl) (by kernel_rfl) (by kernel_rfl) (by kernel_rfl) ⟨by kernel_rfl, by kernel_rfl, by kernel_rfl⟩
def Td : TI := ⟨1, 8, .other, [.bu], none⟩
theorem acm : aT Try.prog 36 Td := af (by kernel_rfl) (by kernel_rfl) (by kernel_rfl) (by kernel_rfl) (by kernel_rfl) (by kernel_rfl) (by kernel_rfl) (by kernel_rfl) (by kernel_rfl) (by kernel_rfl) (by kernel_rfl) trivial
def Tc : TI := ⟨1, 8, .other, [.bu], none⟩
theorem ack : aT Try.prog 37 Tc := af (by kernel_rfl) (by kernel_rfl) (by kernel_rfl) (by kernel_rfl) (by kernel_rfl) (by kernel_rfl) (by kernel_rfl) (by kernel_rfl) (by kernel_rfl) (by kernel_rfl) (by kernel_rfl) trivial
def Tb : TI := ⟨1, 8, .other, [.bu], none⟩
theorem acj : aT Try.prog 38 Tb := af (by kernel_rfl) (by kernel_rfl) (by kernel_rfl) (by kernel_rfl) (by kernel_rfl) (by kernel_rfl) (by kernel_rfl) (by kernel_rfl) (by kernel_rfl) (by kernel_rfl) (by kernel_rfl) trivial
def Ta : TI := ⟨1, 16, .iface, [.cy], none⟩
theorem aci : aT Try.prog 39 Ta := af (by kernel_rfl) (by kernel_rfl) (by kernel_rfl) (by kernel_rfl) (by kernel_rfl) (by kernel_rfl) (by kernel_rfl) (by kernel_rfl) (by kernel_rfl) (by kernel_rfl) (by kernel_rfl) trivial
def S9 : TI := ⟨1, 16, .iface, [.cy], none⟩
theorem ach : aT Try.prog 40 S9 := af (by kernel_rfl) (by kernel_rfl) (by kernel_rfl) (by kernel_rfl) (by kernel_rfl) (by kernel_rfl) (by kernel_rfl) (by kernel_rfl) (by kernel_rfl) (by kernel_rfl) (by kernel_rfl) trivial
def S8 : TI := ⟨2, 24, .struct [(0, 3), (1, 40)], [.int 0, .cy], none⟩
theorem acg : aT Try.prog 41 S8 := af (by kernel_rfl) (by kernel_rfl) (by kernel_rfl) (by kernel_rfl) (by kernel_rfl) (by kernel_rfl) (by kernel_rfl) (by kernel_rfl) (by kernel_rfl) (by kernel_rfl) (by kernel_rfl) trivial
def S7 : TI := ⟨2, 24, .struct [(0, 3), (1, 40)], [.int 0, .cy], none⟩
theorem acf : aT Try.prog 42 S7 := af (by kernel_rfl) (by kernel_rfl) (by kernel_rfl) (by kernel_rfl) (by kernel_rfl) (by kernel_rfl) (by kernel_rfl) (by kernel_rfl) (by kernel_rfl) (by kernel_rfl) (by kernel_rfl) trivial
def S6 : TI := ⟨1, 24, .slice 5, [.emp], some (.list .u8)⟩
theorem ace : aT Try.prog 43 S6 := af (by kernel_rfl) (by kernel_rfl) (by kernel_rfl) (by kernel_rfl) (by kernel_rfl) (by kernel_rfl) (by kernel_rfl) (by kernel_rfl) (by kernel_rfl) (by kernel_rfl) (by kernel_rfl) ⟨by kernel_rfl, by kernel_rfl, by kernel_rfl⟩
def S5 : TI := ⟨3, 48, .struct [(0, 42), (2, 43)], [.int 0, .cy, .emp], none⟩
theorem acd : aT Try.prog 44 S5 := af (by kernel_rfl) (by kernel_rfl) (by kernel_rfl) (by kernel_rfl) (by kernel_rfl) (by kernel_rfl) (by kernel_rfl) (by kernel_rfl) (by kernel_rfl) (by kernel_rfl) (by kernel_rfl) trivial
def S4 : TI := ⟨3, 48, .struct [(0, 42), (2, 43)], [.int 0, .cy, .emp], none⟩
theorem acb : aT Try.prog 45 S4 := af (by kernel_rfl) (by kernel_rfl) (by kernel_rfl) (by kernel_rfl) (by kernel_rfl) (by kernel_rfl) (by kernel_rfl) (by kernel_rfl) (by kernel_rfl) (by kernel_rfl) (by kernel_rfl) trivial
def S3 : TI := ⟨1, 8, .other, [.bu], none⟩
theorem aca : aT Try.prog 46 S3 := af (by kernel_rfl) (by kernel_rfl) (by kernel_rfl) (by kernel_rfl) (by kernel_rfl) (by kernel_rfl) (by kernel_rfl) (by kernel_rfl) (by kernel_rfl) (by kernel_rfl) (by kernel_rfl) trivial
def S2 : TI := ⟨1, 8, .other, [.bu], none⟩
theorem ab9 : aT Try.prog 48 S2 := af (by kernel_rfl) (by kernel_rfl) (by kernel_rfl) (by kernel_rfl) (by kernel_rfl) (by kernel_rfl) (by kernel_rfl) (by kernel_rfl) (by kernel_rfl) (by kernel_rfl) (by kernel_rfl) trivial
def S1 : TI := ⟨1, 8, .other, [.bu], none⟩
theorem ab8 : aT Try.prog 49 S1 := af (by kernel_rfl) (by kernel_rfl) (by kernel_rfl) (by kernel_rfl) (by kernel_rfl) (by kernel_rfl) (by kernel_rfl) (by kernel_rfl) (by kernel_rfl) (by kernel_rfl) (by kernel_rfl) trivial
def S0 : TI := ⟨1, 8, .other, [.bu], none⟩
theorem ab7 : aT Try.prog 50 S0 := af (by kernel_rfl) (by kernel_rfl) (by kernel_rfl) (by kernel_rfl) (by kernel_rfl) (by kernel_rfl) (by kernel_rfl) (by kernel_rfl) (by kernel_rfl) (by kernel_rfl) (by kernel_rfl) trivial
def SZ : TI := ⟨1, 8, .other, [.bu], none⟩
theorem ab6 : aT Try.prog 51 SZ := af (by kernel_rfl) (by kernel_rfl) (by kernel_rfl) (by kernel_rfl) (by kernel_rfl) (by kernel_rfl) (by kernel_rfl) (by kernel_rfl) (by kernel_rfl) (by kernel_rfl) (by kernel_rfl) trivial
def SY : TI := ⟨1, 8, .other, [.bu], none⟩
theorem ab5 : aT Try.prog 52 SY := af (by kernel_rfl) (by kernel_rfl) (by kernel_rfl) (by kernel_rfl) (by kernel_rfl) (by kernel_rfl) (by kernel_rfl) (by kernel_rfl) (by kernel_rfl) (by kernel_rfl) (by kernel_rfl) trivial
def SX : TI := ⟨1, 24, .slice 60, [.emp], some (.list (.prod .int (.prod .elem (.prod .elem (.prod .elem .bool)))))⟩
theorem ab4 : aT Try.prog 53 SX := af (by kernel_rfl) (by kernel_rfl) (by kernel_rfl) (by kernel_rfl) (by kernel_rfl) (by kernel_rfl) (by kernel_rfl) (by kernel_rfl) (by kernel_rfl) (by kernel_rfl) (by kernel_rfl) ⟨by kernel_rfl, by kernel_rfl, by kernel_rfl⟩
def SW : TI := ⟨6, 96, .struct [(0, 3), (1, 32), (3, 43), (4, 3), (5, 43)], [.int 0, .int 0, .emp, .emp, .int 0, .emp], some (.prod .int (.prod (.prod .int (.list .elem)) (.prod (.list .u8) (.prod .int (.list .u8)))))⟩
theorem ab3 : aT Try.prog 54 SW := af (by kernel_rfl) (by kernel_rfl) (by kernel_rfl) (by kernel_rfl) (by kernel_rfl) (by kernel_rfl) (by kernel_rfl) (by kernel_rfl) (by kernel_rfl) (by kernel_rfl) (by kernel_rfl) ⟨by kernel_rfl, by kernel_rfl, by kernel_rfl⟩
def SU : TI := ⟨6, 96, .struct [(0, 3), (1, 32), (3, 43), (4, 3), (5, 43)], [.int 0, .int 0, .emp, .emp, .int 0, .emp], some (.prod .int (.prod (.prod .int (.list .elem)) (.prod (.list .u8) (.prod .int (.list .u8)))))⟩
theorem ab2 : aT Try.prog 55 SU := af (by kernel_rfl) (by kernel_rfl) (by kernel_rfl) (by kernel_rfl) (by kernel_rfl) (by kernel_rfl) (by kernel_rfl) (by kernel_rfl) (by kernel_rfl) (by kernel_rfl) (by kernel_rfl) ⟨by kernel_rfl, by kernel_rfl, by kernel_rfl⟩
def SS : TI := ⟨1, 8, .other, [.bu], none⟩
theorem ab1 : aT Try.prog 57 SS := af (by kernel_rfl) (by kernel_rfl) (by kernel_rfl) (by kernel_rfl) (by kernel_rfl) (by kernel_rfl) (by kernel_rfl) (by kernel_rfl) (by kernel_rfl) (by kernel_rfl) (by kernel_rfl) trivial
def SR : TI := ⟨1, 8, .other, [.bu], none⟩
theorem ab0 : aT Try.prog 58 SR := af (by kernel_rfl) (by kernel_rfl) (by kernel_rfl) (by kernel_rfl) (by kernel_rfl) (by kernel_rfl) (by kernel_rfl) (by kernel_rfl) (by kernel_rfl) (by kernel_rfl) (by kernel_rfl) trivial
def SQ : TI := ⟨14, 112, .struct [(0, 3), (1, 25), (5, 27)], [.int 0, .u64 0, .u64 0, .u64 0, .u64 0, .u64 0, .u64 0, .u64 0, .u64 0, .u64 0, .u64 0, .u64 0, .u64 0, .bool false], some (.prod .int (.prod .elem (.prod .elem (.prod .elem .bool))))⟩
theorem abZ : aT Try.prog 59 SQ := af (by kernel_rfl) (by kernel_rfl) (by kernel_rfl) (by kernel_rfl) (by kernel_rfl) (by kernel_rfl) (by kernel_rfl) (by kernel_rfl) (by kernel_rfl) (by kernel_rfl) (by kernel_rfl) ⟨by kernel_rfl, by kernel_rfl, by kernel_rfl⟩
def SP : TI := ⟨14, 112, .struct [(0, 3), (1, 25), (5, 27)], [.int 0, .u64 0, .u64 0, .u64 0, .u64 0, .u64 0, .u64 0, .u64 0, .u64 0, .u64 0, .u64 0, .u64 0, .u64 0, .bool false], some (.prod .int (.prod .elem (.prod .elem (.prod .elem .bool))))⟩
theorem abY : aT Try.prog 60 SP := af (by kernel_rfl) (by kernel_rfl) (by kernel_rfl) (by kernel_rfl) (by kernel_rfl) (by kernel_rfl) (by kernel_rfl) (by kernel_rfl) (by kernel_rfl) (by kernel_rfl) (by kernel_rfl) ⟨by kernel_rfl, by kernel_rfl, by kernel_rfl⟩
def SO : TI := ⟨1, 8, .other, [.bu], none⟩
theorem abX : aT Try.prog 61 SO := af (by kernel_rfl) (by kernel_rfl) (by kernel_rfl) (by kernel_rfl) (by kernel_rfl) (by kernel_rfl) (by kernel_rfl) (by kernel_rfl) (by kernel_rfl) (by kernel_rfl) (by kernel_rfl) trivial
def SN : TI := ⟨1, 8, .other, [.bu], none⟩
theorem abW : aT Try.prog 62 SN := af (by kernel_rfl) (by kernel_rfl) (by kernel_rfl) (by kernel_rfl) (by kernel_rfl) (by kernel_rfl) (by kernel_rfl) (by kernel_rfl) (by kernel_rfl) (by kernel_rfl) (by kernel_rfl) trivial
def SM : TI := ⟨1, 8, .other, [.bu], none⟩
theorem abV : aT Try.prog 64 SM := af (by kernel_rfl) (by kernel_rfl) (by kernel_rfl) (by kernel_rfl) (by kernel_rfl) (by kernel_rfl) (by kernel_rfl) (by kernel_rfl) (by kernel_rfl) (by kernel_rfl) (by kernel_rfl) trivial
def SL : TI := ⟨1, 8, .other, [.bu], none⟩
theorem abU : aT Try.prog 65 SL := af (by kernel_rfl) (by kernel_rfl) (by kernel_rfl) (by kernel_rfl) (by kernel_rfl) (by kernel_rfl) (by kernel_rfl) (by kernel_rfl) (by kernel_rfl) (by kernel_rfl) (by kernel_rfl) trivial
def SK : TI := ⟨1, 8, .other, [.bu], none⟩
theorem abT : aT Try.prog 66 SK := af (by kernel_rfl) (by kernel_rfl) (by kernel_rfl) (by kernel_rfl) (by kernel_rfl) (by kernel_rfl) (by kernel_rfl) (by kernel_rfl) (by kernel_rfl) (by kernel_rfl) (by kernel_rfl) trivial
def SJ : TI := ⟨1, 8, .ptr [("Point", 26), ("Rest", 29), ("Scalar", 27)], [.kr], none⟩
theorem abS : aT Try.prog 67 SJ := af (by kernel_rfl) (by kernel_rfl) (by kernel_rfl) (by kernel_rfl) (by kernel_rfl) (by kernel_rfl) (by kernel_rfl) (by kernel_rfl) (by kernel_rfl) (by kernel_rfl) (by kernel_rfl) trivial
def SI : TI := ⟨1, 8, .other, [.bu], none⟩
theorem abR : aT Try.prog 69 SI := af (by kernel_rfl) (by kernel_rfl) (by kernel_rfl) (by kernel_rfl) (by kernel_rfl) (by kernel_rfl) (by kernel_rfl) (by kernel_rfl) (by kernel_rfl) (by kernel_rfl) (by kernel_rfl) trivial
def SH : TI := ⟨3, 48, .struct [(0, 42), (2, 43)], [.int 0, .cy, .emp], none⟩
theorem abQ : aT Try.prog 70 SH := af (by kernel_rfl) (by kernel_rfl) (by kernel_rfl) (by kernel_rfl) (by kernel_rfl) (by kernel_rfl) (by kernel_rfl) (by kernel_rfl) (by kernel_rfl) (by kernel_rfl) (by kernel_rfl) trivial
def SG : TI := ⟨3, 48, .struct [(0, 42), (2, 43)], [.int 0, .cy, .emp], none⟩
theorem abP : aT Try.prog 71 SG := af (by kernel_rfl) (by kernel_rfl) (by kernel_rfl) (by kernel_rfl) (by kernel_rfl) (by kernel_rfl) (by kernel_rfl) (by kernel_rfl) (by kernel_rfl) (by kernel_rfl) (by kernel_rfl) trivial
def SF : TI := ⟨1, 8, .other, [.bu], none⟩
theorem abO : aT Try.prog 73 SF := af (by kernel_rfl) (by kernel_rfl) (by kernel_rfl) (by kernel_rfl) (by kernel_rfl) (by kernel_rfl) (by kernel_rfl) (by kernel_rfl) (by kernel_rfl) (by kernel_rfl) (by kernel_rfl) trivial
def SD : TI := ⟨1, 8, .other, [.bu], none⟩
theorem abN : aT Try.prog 74 SD := af (by kernel_rfl) (by kernel_rfl) (by kernel_rfl) (by kernel_rfl) (by kernel_rfl) (by kernel_rfl) (by kernel_rfl) (by kernel_rfl) (by kernel_rfl) (by kernel_rfl) (by kernel_rfl) trivial
def SC : TI := ⟨1, 8, .other, [.bu], none⟩
theorem abM : aT Try.prog 75 SC := af (by kernel_rfl) (by kernel_rfl) (by kernel_rfl) (by kernel_rfl) (by kernel_rfl) (by kernel_rfl) (by kernel_rfl) (by kernel_rfl) (by kernel_rfl) (by kernel_rfl) (by kernel_rfl) trivial
def SB : TI := ⟨1, 8, .other, [.bu], none⟩
theorem abL : aT Try.prog 77 SB := af (by kernel_rfl) (by kernel_rfl) (by kernel_rfl) (by kernel_rfl) (by kernel_rfl) (by kernel_rfl) (by kernel_rfl) (by kernel_rfl) (by kernel_rfl) (by kernel_rfl) (by kernel_rfl) trivial
def SA : TI := ⟨1, 8, .other, [.bu], none⟩
theorem abK : aT Try.prog 78 SA := af (by kernel_rfl) (by kernel_rfl) (by kernel_rfl) (by kernel_rfl) (by kernel_rfl) (by kernel_rfl) (by kernel_rfl) (by kernel_rfl) (by kernel_rfl) (by kernel_rfl) (by kernel_rfl) trivial
def Sz : TI := ⟨1, 8, .ptr [("Challenge", 14), ("Curve", 24), ("Hear", 11)], [.kr], none⟩
theorem abJ : aT Try.prog 79 Sz := af (by kernel_rfl) (by kernel_rfl) (by kernel_rfl) (by kernel_rfl) (by kernel_rfl) (by kernel_rfl) (by kernel_rfl) (by kernel_rfl) (by kernel_rfl) (by kernel_rfl) (by kernel_rfl) trivial
def Sy : TI := ⟨1, 8, .other, [.bu], none⟩
theorem abI : aT Try.prog 80 Sy := af (by kernel_rfl) (by kernel_rfl) (by kernel_rfl) (by kernel_rfl) (by kernel_rfl) (by kernel_rfl) (by kernel_rfl) (by kernel_rfl) (by kernel_rfl) (by kernel_rfl) (by kernel_rfl) trivial
def Sw : TI := ⟨1, 8, .other, [.bu], none⟩
theorem abH : aT Try.prog 81 Sw := af (by kernel_rfl) (by kernel_rfl) (by kernel_rfl) (by kernel_rfl) (by kernel_rfl) (by kernel_rfl) (by kernel_rfl) (by kernel_rfl) (by kernel_rfl) (by kernel_rfl) (by kernel_rfl) trivial
def Sv : TI := ⟨1, 8, .other, [.bu], none⟩
theorem abG : aT Try.prog 82 Sv := af (by kernel_rfl) (by kernel_rfl) (by kernel_rfl) (by kernel_rfl) (by kernel_rfl) (by kernel_rfl) (by kernel_rfl) (by kernel_rfl) (by kernel_rfl) (by kernel_rfl) (by kernel_rfl) trivial
def Su : TI := ⟨1, 8, .other, [.bu], none⟩
theorem abF : aT Try.prog 83 Su := af (by kernel_rfl) (by kernel_rfl) (by kernel_rfl) (by kernel_rfl) (by kernel_rfl) (by kernel_rfl) (by kernel_rfl) (by kernel_rfl) (by kernel_rfl) (by kernel_rfl) (by kernel_rfl) trivial
def Ss : TI := ⟨1, 8, .other, [.bu], none⟩
theorem abE : aT Try.prog 84 Ss := af (by kernel_rfl) (by kernel_rfl) (by kernel_rfl) (by kernel_rfl) (by kernel_rfl) (by kernel_rfl) (by kernel_rfl) (by kernel_rfl) (by kernel_rfl) (by kernel_rfl) (by kernel_rfl) trivial
def Sr : TI := ⟨1, 8, .int .u64, [.u64 0], some .u64⟩
theorem abD : aT Try.prog 85 Sr := af (by kernel_rfl) (by kernel_rfl) (by kernel_rfl) (by kernel_rfl) (by kernel_rfl) (by kernel_rfl) (by kernel_rfl) (by kernel_rfl) (by kernel_rfl) (by kernel_rfl) (by kernel_rfl) ⟨by kernel_rfl, by kernel_rfl, by kernel_rfl⟩
def Sq : TI := ⟨1, 8, .other, [.bu], none⟩
theorem abC : aT Try.prog 86 Sq := af (by kernel_rfl) (by kernel_rfl) (by kernel_rfl) (by kernel_rfl) (by kernel_rfl) (by kernel_rfl) (by kernel_rfl) (by kernel_rfl) (by kernel_rfl) (by kernel_rfl) (by kernel_rfl) trivial
def Sp : TI := ⟨1, 8, .other, [.bu], none⟩
theorem abB : aT Try.prog 87 Sp := af (by kernel_rfl) (by kernel_rfl) (by kernel_rfl) (by kernel_rfl) (by kernel_rfl) (by kernel_rfl) (by kernel_rfl) (by kernel_rfl) (by kernel_rfl) (by kernel_rfl) (by kernel_rfl) trivial
def So : TI := ⟨1, 8, .other, [.bu], none⟩
theorem abA : aT Try.prog 88 So := af (by kernel_rfl) (by kernel_rfl) (by kernel_rfl) (by kernel_rfl) (by kernel_rfl) (by kernel_rfl) (by kernel_rfl) (by kernel_rfl) (by kernel_rfl) (by kernel_rfl) (by kernel_rfl) trivial
def Sn : TI := ⟨1, 8, .other, [.bu], none⟩
theorem abz : aT Try.prog 89 Sn := af (by kernel_rfl) (by kernel_rfl) (by kernel_rfl) (by kernel_rfl) (by kernel_rfl) (by kernel_rfl) (by kernel_rfl) (by kernel_rfl) (by kernel_rfl) (by kernel_rfl) (by kernel_rfl) trivial
def Sm : TI := ⟨1, 8, .other, [.bu], none⟩
theorem aby : aT Try.prog 90 Sm := af (by kernel_rfl) (by kernel_rfl) (by kernel_rfl) (by kernel_rfl) (by kernel_rfl) (by kernel_rfl) (by kernel_rfl) (by kernel_rfl) (by kernel_rfl) (by kernel_rfl) (by kernel_rfl) trivial
def Sl : TI := ⟨1, 8, .other, [.bu], none⟩
theorem abx : aT Try.prog 92 Sl := af (by kernel_rfl) (by kernel_rfl) (by kernel_rfl) (by kernel_rfl) (by kernel_rfl) (by kernel_rfl) (by kernel_rfl) (by kernel_rfl) (by kernel_rfl) (by kernel_rfl) (by kernel_rfl) trivial
def Sk : TI := ⟨1, 8, .other, [.bu], none⟩
theorem abw : aT Try.prog 93 Sk := af (by kernel_rfl) (by kernel_rfl) (by kernel_rfl) (by kernel_rfl) (by kernel_rfl) (by kernel_rfl) (by kernel_rfl) (by kernel_rfl) (by kernel_rfl) (by kernel_rfl) (by kernel_rfl) trivial
def Sj : TI := ⟨1, 8, .other, [.bu], none⟩
theorem abv : aT Try.prog 94 Sj := af (by kernel_rfl) (by kernel_rfl) (by kernel_rfl) (by kernel_rfl) (by kernel_rfl) (by kernel_rfl) (by kernel_rfl) (by kernel_rfl) (by kernel_rfl) (by kernel_rfl) (by kernel_rfl) trivial
def Si : TI := ⟨1, 8, .other, [.bu], none⟩
theorem abu : aT Try.prog 95 Si := af (by kernel_rfl) (by kernel_rfl) (by kernel_rfl) (by kernel_rfl) (by kernel_rfl) (by kernel_rfl) (by kernel_rfl) (by kernel_rfl) (by kernel_rfl) (by kernel_rfl) (by kernel_rfl) trivial
def Sg : TI := ⟨1, 8, .other, [.bu], none⟩
theorem abt : aT Try.prog 96 Sg := af (by kernel_rfl) (by kernel_rfl) (by kernel_rfl) (by kernel_rfl) (by kernel_rfl) (by kernel_rfl) (by kernel_rfl) (by kernel_rfl) (by kernel_rfl) (by kernel_rfl) (by kernel_rfl) trivial
def Sf : TI := ⟨1, 8, .other, [.bu], none⟩
theorem abr : aT Try.prog 97 Sf := af (by kernel_rfl) (by kernel_rfl) (by kernel_rfl) (by kernel_rfl) (by kernel_rfl) (by kernel_rfl) (by kernel_rfl) (by kernel_rfl) (by kernel_rfl) (by kernel_rfl) (by kernel_rfl) trivial
def Se : TI := ⟨1, 8, .ptr [("sigil/tape.next", 116), ("sigil/tape.take", 117)], [.kr], none⟩
theorem abq : aT Try.prog 98 Se := af (by kernel_rfl) (by kernel_rfl) (by kernel_rfl) (by kernel_rfl) (by kernel_rfl) (by kernel_rfl) (by kernel_rfl) (by kernel_rfl) (by kernel_rfl) (by kernel_rfl) (by kernel_rfl) trivial
def Sd : TI := ⟨1, 24, .struct [(0, 22)], [.emp], some (.list .elem)⟩
theorem abp : aT Try.prog 99 Sd := af (by kernel_rfl) (by kernel_rfl) (by kernel_rfl) (by kernel_rfl) (by kernel_rfl) (by kernel_rfl) (by kernel_rfl) (by kernel_rfl) (by kernel_rfl) (by kernel_rfl) (by kernel_rfl) ⟨by kernel_rfl, by kernel_rfl, by kernel_rfl⟩
def Ns : TI := ⟨1, 24, .struct [(0, 22)], [.emp], some (.list .elem)⟩
theorem YD : aT Try.prog 100 Ns := af (by kernel_rfl) (by kernel_rfl) (by kernel_rfl) (by kernel_rfl) (by kernel_rfl) (by kernel_rfl) (by kernel_rfl) (by kernel_rfl) (by kernel_rfl) (by kernel_rfl) (by kernel_rfl) ⟨by kernel_rfl, by kernel_rfl, by kernel_rfl⟩
def Nr : TI := ⟨2, 32, .struct [(0, 3), (1, 100)], [.int 0, .emp], some (.prod .int (.list .elem))⟩
theorem YC : aT Try.prog 101 Nr := af (by kernel_rfl) (by kernel_rfl) (by kernel_rfl) (by kernel_rfl) (by kernel_rfl) (by kernel_rfl) (by kernel_rfl) (by kernel_rfl) (by kernel_rfl) (by kernel_rfl) (by kernel_rfl) ⟨by kernel_rfl, by kernel_rfl, by kernel_rfl⟩
def Nq : TI := ⟨2, 32, .struct [(0, 3), (1, 100)], [.int 0, .emp], some (.prod .int (.list .elem))⟩
theorem YB : aT Try.prog 102 Nq := af (by kernel_rfl) (by kernel_rfl) (by kernel_rfl) (by kernel_rfl) (by kernel_rfl) (by kernel_rfl) (by kernel_rfl) (by kernel_rfl) (by kernel_rfl) (by kernel_rfl) (by kernel_rfl) ⟨by kernel_rfl, by kernel_rfl, by kernel_rfl⟩
def Np : TI := ⟨1, 8, .ptr [("Sum", 119), ("Write", 124)], [.kr], none⟩
theorem YA : aT Try.prog 103 Np := af (by kernel_rfl) (by kernel_rfl) (by kernel_rfl) (by kernel_rfl) (by kernel_rfl) (by kernel_rfl) (by kernel_rfl) (by kernel_rfl) (by kernel_rfl) (by kernel_rfl) (by kernel_rfl) trivial
def Nn : TI := ⟨1, 8, .other, [.bu], none⟩
theorem Yz : aT Try.prog 105 Nn := af (by kernel_rfl) (by kernel_rfl) (by kernel_rfl) (by kernel_rfl) (by kernel_rfl) (by kernel_rfl) (by kernel_rfl) (by kernel_rfl) (by kernel_rfl) (by kernel_rfl) (by kernel_rfl) trivial
def Nl : TI := ⟨1, 8, .ptr [("sigil/tape.next", 120), ("sigil/tape.take", 121)], [.kr], none⟩
theorem Yy : aT Try.prog 106 Nl := af (by kernel_rfl) (by kernel_rfl) (by kernel_rfl) (by kernel_rfl) (by kernel_rfl) (by kernel_rfl) (by kernel_rfl) (by kernel_rfl) (by kernel_rfl) (by kernel_rfl) (by kernel_rfl) trivial
def Nk : TI := ⟨2, 16, .struct [(0, 3), (1, 103)], [.int 0, .kr], none⟩
theorem Yx : aT Try.prog 107 Nk := af (by kernel_rfl) (by kernel_rfl) (by kernel_rfl) (by kernel_rfl) (by kernel_rfl) (by kernel_rfl) (by kernel_rfl) (by kernel_rfl) (by kernel_rfl) (by kernel_rfl) (by kernel_rfl) trivial
def Nj : TI := ⟨2, 16, .struct [(0, 3), (1, 103)], [.int 0, .kr], none⟩
theorem Yw : aT Try.prog 108 Nj := af (by kernel_rfl) (by kernel_rfl) (by kernel_rfl) (by kernel_rfl) (by kernel_rfl) (by kernel_rfl) (by kernel_rfl) (by kernel_rfl) (by kernel_rfl) (by kernel_rfl) (by kernel_rfl) trivial
def Ni : TI := ⟨11, 88, .struct [(0, 25), (4, 3), (5, 23), (6, 23), (7, 25)], [.u64 0, .u64 0, .u64 0, .u64 0, .int 0, .u64 0, .u64 0, .u64 0, .u64 0, .u64 0, .u64 0], some (.prod .elem (.prod .int (.prod .u64 (.prod .u64 .elem))))⟩
theorem Yv : aT Try.prog 109 Ni := af (by kernel_rfl) (by kernel_rfl) (by kernel_rfl) (by kernel_rfl) (by kernel_rfl) (by kernel_rfl) (by kernel_rfl) (by kernel_rfl) (by kernel_rfl) (by kernel_rfl) (by kernel_rfl) ⟨by kernel_rfl, by kernel_rfl, by kernel_rfl⟩
def Nh : TI := ⟨11, 88, .struct [(0, 25), (4, 3), (5, 23), (6, 23), (7, 25)], [.u64 0, .u64 0, .u64 0, .u64 0, .int 0, .u64 0, .u64 0, .u64 0, .u64 0, .u64 0, .u64 0], some (.prod .elem (.prod .int (.prod .u64 (.prod .u64 .elem))))⟩
theorem Yu : aT Try.prog 110 Nh := af (by kernel_rfl) (by kernel_rfl) (by kernel_rfl) (by kernel_rfl) (by kernel_rfl) (by kernel_rfl) (by kernel_rfl) (by kernel_rfl) (by kernel_rfl) (by kernel_rfl) (by kernel_rfl) ⟨by kernel_rfl, by kernel_rfl, by kernel_rfl⟩
def Ng : TI := ⟨1, 8, .other, [.bu], none⟩
theorem Yt : aT Try.prog 112 Ng := af (by kernel_rfl) (by kernel_rfl) (by kernel_rfl) (by kernel_rfl) (by kernel_rfl) (by kernel_rfl) (by kernel_rfl) (by kernel_rfl) (by kernel_rfl) (by kernel_rfl) (by kernel_rfl) trivial
def Nf : TI := ⟨1, 8, .other, [.bu], none⟩
theorem Ys : aT Try.prog 113 Nf := af (by kernel_rfl) (by kernel_rfl) (by kernel_rfl) (by kernel_rfl) (by kernel_rfl) (by kernel_rfl) (by kernel_rfl) (by kernel_rfl) (by kernel_rfl) (by kernel_rfl) (by kernel_rfl) trivial
def Nd : TI := ⟨1, 8, .other, [.bu], none⟩
theorem Yr : aT Try.prog 115 Nd := af (by kernel_rfl) (by kernel_rfl) (by kernel_rfl) (by kernel_rfl) (by kernel_rfl) (by kernel_rfl) (by kernel_rfl) (by kernel_rfl) (by kernel_rfl) (by kernel_rfl) (by kernel_rfl) trivial
def Nc : TI := ⟨8, 64, .array 8 23, [.u64 0, .u64 0, .u64 0, .u64 0, .u64 0, .u64 0, .u64 0, .u64 0], some (.arr 8 .u64)⟩
theorem Yq : aT Try.prog 116 Nc := af (by kernel_rfl) (by kernel_rfl) (by kernel_rfl) (by kernel_rfl) (by kernel_rfl) (by kernel_rfl) (by kernel_rfl) (by kernel_rfl) (by kernel_rfl) (by kernel_rfl) (by kernel_rfl) ⟨by kernel_rfl, by kernel_rfl, by kernel_rfl⟩
def Nb : TI := ⟨1, 8, .other, [.bu], none⟩
theorem Yp : aT Try.prog 117 Nb := af (by kernel_rfl) (by kernel_rfl) (by kernel_rfl) (by kernel_rfl) (by kernel_rfl) (by kernel_rfl) (by kernel_rfl) (by kernel_rfl) (by kernel_rfl) (by kernel_rfl) (by kernel_rfl) trivial
def Na : TI := ⟨1, 8, .other, [.bu], none⟩
theorem Yo : aT Try.prog 118 Na := af (by kernel_rfl) (by kernel_rfl) (by kernel_rfl) (by kernel_rfl) (by kernel_rfl) (by kernel_rfl) (by kernel_rfl) (by kernel_rfl) (by kernel_rfl) (by kernel_rfl) (by kernel_rfl) trivial
def M9 : TI := ⟨1, 8, .other, [.bu], none⟩
theorem Yn : aT Try.prog 119 M9 := af (by kernel_rfl) (by kernel_rfl) (by kernel_rfl) (by kernel_rfl) (by kernel_rfl) (by kernel_rfl) (by kernel_rfl) (by kernel_rfl) (by kernel_rfl) (by kernel_rfl) (by kernel_rfl) trivial
def M8 : TI := ⟨1, 8, .other, [.bu], none⟩
theorem Ym : aT Try.prog 120 M8 := af (by kernel_rfl) (by kernel_rfl) (by kernel_rfl) (by kernel_rfl) (by kernel_rfl) (by kernel_rfl) (by kernel_rfl) (by kernel_rfl) (by kernel_rfl) (by kernel_rfl) (by kernel_rfl) trivial
def M7 : TI := ⟨1, 8, .other, [.bu], none⟩
theorem Yl : aT Try.prog 121 M7 := af (by kernel_rfl) (by kernel_rfl) (by kernel_rfl) (by kernel_rfl) (by kernel_rfl) (by kernel_rfl) (by kernel_rfl) (by kernel_rfl) (by kernel_rfl) (by kernel_rfl) (by kernel_rfl) trivial
def M6 : TI := ⟨1, 8, .other, [.bu], none⟩
theorem Yk : aT Try.prog 122 M6 := af (by kernel_rfl) (by kernel_rfl) (by kernel_rfl) (by kernel_rfl) (by kernel_rfl) (by kernel_rfl) (by kernel_rfl) (by kernel_rfl) (by kernel_rfl) (by kernel_rfl) (by kernel_rfl) trivial
def M5 : TI := ⟨11, 104, .struct [(0, 3), (1, 116), (9, 43), (10, 23)], [.int 0, .u64 0, .u64 0, .u64 0, .u64 0, .u64 0, .u64 0, .u64 0, .u64 0, .emp, .u64 0], some (.prod .int (.prod (.arr 8 .u64) (.prod (.list .u8) .u64)))⟩
theorem Yj : aT Try.prog 123 M5 := af (by kernel_rfl) (by kernel_rfl) (by kernel_rfl) (by kernel_rfl) (by kernel_rfl) (by kernel_rfl) (by kernel_rfl) (by kernel_rfl) (by kernel_rfl) (by kernel_rfl) (by kernel_rfl) ⟨by kernel_rfl, by kernel_rfl, by kernel_rfl⟩
def M4 : TI := ⟨11, 104, .struct [(0, 3), (1, 116), (9, 43), (10, 23)], [.int 0, .u64 0, .u64 0, .u64 0, .u64 0, .u64 0, .u64 0, .u64 0, .u64 0, .emp, .u64 0], some (.prod .int (.prod (.arr 8 .u64) (.prod (.list .u8) .u64)))⟩
theorem Yi : aT Try.prog 124 M4 := af (by kernel_rfl) (by kernel_rfl) (by kernel_rfl) (by kernel_rfl) (by kernel_rfl) (by kernel_rfl) (by kernel_rfl) (by kernel_rfl) (by kernel_rfl) (by kernel_rfl) (by kernel_rfl) ⟨by kernel_rfl, by kernel_rfl, by kernel_rfl⟩
def M3 : TI := ⟨16, 16, .array 16 5, List.replicate 16 (.u8 0), some (.arr 16 .u8)⟩
theorem Yh : aT Try.prog 125 M3 := af (by kernel_rfl) (by kernel_rfl) (by kernel_rfl) (by kernel_rfl) (by kernel_rfl) (by kernel_rfl) (by kernel_rfl) (by kernel_rfl) (by kernel_rfl) (by kernel_rfl) (by kernel_rfl) ⟨by kernel_rfl, by kernel_rfl, by kernel_rfl⟩
def M2 : TI := ⟨1, 8, .other, [.bu], none⟩
theorem Yg : aT Try.prog 126 M2 := af (by kernel_rfl) (by kernel_rfl) (by kernel_rfl) (by kernel_rfl) (by kernel_rfl) (by kernel_rfl) (by kernel_rfl) (by kernel_rfl) (by kernel_rfl) (by kernel_rfl) (by kernel_rfl) trivial
def M1 : TI := ⟨1, 8, .other, [.bu], none⟩
theorem Yf : aT Try.prog 128 M1 := af (by kernel_rfl) (by kernel_rfl) (by kernel_rfl) (by kernel_rfl) (by kernel_rfl) (by kernel_rfl) (by kernel_rfl) (by kernel_rfl) (by kernel_rfl) (by kernel_rfl) (by kernel_rfl) trivial
def M0 : TI := ⟨1, 8, .other, [.bu], none⟩
theorem Ye : aT Try.prog 129 M0 := af (by kernel_rfl) (by kernel_rfl) (by kernel_rfl) (by kernel_rfl) (by kernel_rfl) (by kernel_rfl) (by kernel_rfl) (by kernel_rfl) (by kernel_rfl) (by kernel_rfl) (by kernel_rfl) trivial
def MZ : TI := ⟨16, 128, .array 16 23, List.replicate 16 (.u64 0), some (.arr 16 .u64)⟩
theorem Yd : aT Try.prog 130 MZ := af (by kernel_rfl) (by kernel_rfl) (by kernel_rfl) (by kernel_rfl) (by kernel_rfl) (by kernel_rfl) (by kernel_rfl) (by kernel_rfl) (by kernel_rfl) (by kernel_rfl) (by kernel_rfl) ⟨by kernel_rfl, by kernel_rfl, by kernel_rfl⟩
def MY : TI := ⟨16, 128, .array 16 3, List.replicate 16 (.int 0), some (.arr 16 .int)⟩
theorem Yc : aT Try.prog 131 MY := af (by kernel_rfl) (by kernel_rfl) (by kernel_rfl) (by kernel_rfl) (by kernel_rfl) (by kernel_rfl) (by kernel_rfl) (by kernel_rfl) (by kernel_rfl) (by kernel_rfl) (by kernel_rfl) ⟨by kernel_rfl, by kernel_rfl, by kernel_rfl⟩
def MX : TI := ⟨160, 1280, .array 10 131, List.replicate 160 (.int 0), some (.arr 10 (.arr 16 .int))⟩
theorem Yb : aT Try.prog 132 MX := af (by kernel_rfl) (by kernel_rfl) (by kernel_rfl) (by kernel_rfl) (by kernel_rfl) (by kernel_rfl) (by kernel_rfl) (by kernel_rfl) (by kernel_rfl) (by kernel_rfl) (by kernel_rfl) ⟨by kernel_rfl, by kernel_rfl, by kernel_rfl⟩
def MW : TI := ⟨1, 8, .other, [.bu], none⟩
theorem Ya : aT Try.prog 133 MW := af (by kernel_rfl) (by kernel_rfl) (by kernel_rfl) (by kernel_rfl) (by kernel_rfl) (by kernel_rfl) (by kernel_rfl) (by kernel_rfl) (by kernel_rfl) (by kernel_rfl) (by kernel_rfl) trivial
def MV : TI := ⟨1, 8, .other, [.bu], none⟩
theorem X9 : aT Try.prog 134 MV := af (by kernel_rfl) (by kernel_rfl) (by kernel_rfl) (by kernel_rfl) (by kernel_rfl) (by kernel_rfl) (by kernel_rfl) (by kernel_rfl) (by kernel_rfl) (by kernel_rfl) (by kernel_rfl) trivial
def MU : TI := ⟨1, 24, .slice 3, [.emp], some (.list .int)⟩
theorem X8 : aT Try.prog 135 MU := af (by kernel_rfl) (by kernel_rfl) (by kernel_rfl) (by kernel_rfl) (by kernel_rfl) (by kernel_rfl) (by kernel_rfl) (by kernel_rfl) (by kernel_rfl) (by kernel_rfl) (by kernel_rfl) ⟨by kernel_rfl, by kernel_rfl, by kernel_rfl⟩
def MT : TI := ⟨1, 8, .other, [.bu], none⟩
theorem X7 : aT Try.prog 136 MT := af (by kernel_rfl) (by kernel_rfl) (by kernel_rfl) (by kernel_rfl) (by kernel_rfl) (by kernel_rfl) (by kernel_rfl) (by kernel_rfl) (by kernel_rfl) (by kernel_rfl) (by kernel_rfl) trivial
def MS : TI := ⟨1, 8, .other, [.bu], none⟩
theorem X6 : aT Try.prog 137 MS := af (by kernel_rfl) (by kernel_rfl) (by kernel_rfl) (by kernel_rfl) (by kernel_rfl) (by kernel_rfl) (by kernel_rfl) (by kernel_rfl) (by kernel_rfl) (by kernel_rfl) (by kernel_rfl) trivial
def MR : TI := ⟨1, 8, .other, [.bu], none⟩
theorem X5 : aT Try.prog 138 MR := af (by kernel_rfl) (by kernel_rfl) (by kernel_rfl) (by kernel_rfl) (by kernel_rfl) (by kernel_rfl) (by kernel_rfl) (by kernel_rfl) (by kernel_rfl) (by kernel_rfl) (by kernel_rfl) trivial
def MQ : TI := ⟨1, 16, .iface, [.cy], none⟩
theorem X4 : aT Try.prog 139 MQ := af (by kernel_rfl) (by kernel_rfl) (by kernel_rfl) (by kernel_rfl) (by kernel_rfl) (by kernel_rfl) (by kernel_rfl) (by kernel_rfl) (by kernel_rfl) (by kernel_rfl) (by kernel_rfl) trivial
def MP : TI := ⟨1, 16, .iface, [.cy], none⟩
theorem X3 : aT Try.prog 140 MP := af (by kernel_rfl) (by kernel_rfl) (by kernel_rfl) (by kernel_rfl) (by kernel_rfl) (by kernel_rfl) (by kernel_rfl) (by kernel_rfl) (by kernel_rfl) (by kernel_rfl) (by kernel_rfl) trivial
def MO : TI := ⟨1, 8, .other, [.bu], none⟩
theorem X2 : aT Try.prog 141 MO := af (by kernel_rfl) (by kernel_rfl) (by kernel_rfl) (by kernel_rfl) (by kernel_rfl) (by kernel_rfl) (by kernel_rfl) (by kernel_rfl) (by kernel_rfl) (by kernel_rfl) (by kernel_rfl) trivial
def MN : TI := ⟨1, 8, .other, [.bu], none⟩
theorem X1 : aT Try.prog 142 MN := af (by kernel_rfl) (by kernel_rfl) (by kernel_rfl) (by kernel_rfl) (by kernel_rfl) (by kernel_rfl) (by kernel_rfl) (by kernel_rfl) (by kernel_rfl) (by kernel_rfl) (by kernel_rfl) trivial
def MM : TI := ⟨6, 48, .array 6 23, [.u64 0, .u64 0, .u64 0, .u64 0, .u64 0, .u64 0], some (.arr 6 .u64)⟩
theorem X0 : aT Try.prog 143 MM := af (by kernel_rfl) (by kernel_rfl) (by kernel_rfl) (by kernel_rfl) (by kernel_rfl) (by kernel_rfl) (by kernel_rfl) (by kernel_rfl) (by kernel_rfl) (by kernel_rfl) (by kernel_rfl) ⟨by kernel_rfl, by kernel_rfl, by kernel_rfl⟩
def ML : TI := ⟨1, 8, .other, [.bu], none⟩
theorem XZ : aT Try.prog 144 ML := af (by kernel_rfl) (by kernel_rfl) (by kernel_rfl) (by kernel_rfl) (by kernel_rfl) (by kernel_rfl) (by kernel_rfl) (by kernel_rfl) (by kernel_rfl) (by kernel_rfl) (by kernel_rfl) trivial
def MK : TI := ⟨1, 24, .slice 23, [.emp], some (.list .u64)⟩
theorem XY : aT Try.prog 145 MK := af (by kernel_rfl) (by kernel_rfl) (by kernel_rfl) (by kernel_rfl) (by kernel_rfl) (by kernel_rfl) (by kernel_rfl) (by kernel_rfl) (by kernel_rfl) (by kernel_rfl) (by kernel_rfl) ⟨by kernel_rfl, by kernel_rfl, by kernel_rfl⟩
def MJ : TI := ⟨1, 8, .other, [.bu], none⟩
theorem XX : aT Try.prog 146 MJ := af (by kernel_rfl) (by kernel_rfl) (by kernel_rfl) (by kernel_rfl) (by kernel_rfl) (by kernel_rfl) (by kernel_rfl) (by kernel_rfl) (by kernel_rfl) (by kernel_rfl) (by kernel_rfl) trivial
def MI : TI := ⟨1, 8, .ptr [("Error", 132)], [.kr], none⟩
theorem XW : aT Try.prog 147 MI := af (by kernel_rfl) (by kernel_rfl) (by kernel_rfl) (by kernel_rfl) (by kernel_rfl) (by kernel_rfl) (by kernel_rfl) (by kernel_rfl) (by kernel_rfl) (by kernel_rfl) (by kernel_rfl) trivial
def MH : TI := ⟨1, 8, .other, [.bu], none⟩
theorem XV : aT Try.prog 148 MH := af (by kernel_rfl) (by kernel_rfl) (by kernel_rfl) (by kernel_rfl) (by kernel_rfl) (by kernel_rfl) (by kernel_rfl) (by kernel_rfl) (by kernel_rfl) (by kernel_rfl) (by kernel_rfl) trivial
def MG : TI := ⟨0, 0, .array 0 16, [], none⟩
theorem XU : aT Try.prog 151 MG := af (by kernel_rfl) (by kernel_rfl) (by kernel_rfl) (by kernel_rfl) (by kernel_rfl) (by kernel_rfl) (by kernel_rfl) (by kernel_rfl) (by kernel_rfl) (by kernel_rfl) (by kernel_rfl) trivial
def MF : TI := ⟨1, 4, .int .u32, [.bu], none⟩
theorem XT : aT Try.prog 154 MF := af (by kernel_rfl) (by kernel_rfl) (by kernel_rfl) (by kernel_rfl) (by kernel_rfl) (by kernel_rfl) (by kernel_rfl) (by kernel_rfl) (by kernel_rfl) (by kernel_rfl) (by kernel_rfl) trivial
def ME : TI := ⟨1, 1, .int .u8, [.u8 0], some .u8⟩
theorem XS : aT Try.prog 155 ME := af (by kernel_rfl) (by kernel_rfl) (by kernel_rfl) (by kernel_rfl) (by kernel_rfl) (by kernel_rfl) (by kernel_rfl) (by kernel_rfl) (by kernel_rfl) (by kernel_rfl) (by kernel_rfl) ⟨by kernel_rfl, by kernel_rfl, by kernel_rfl⟩
def MD : TI := ⟨1, 1, .int .u8, [.u8 0], some .u8⟩
theorem XR : aT Try.prog 156 MD := af (by kernel_rfl) (by kernel_rfl) (by kernel_rfl) (by kernel_rfl) (by kernel_rfl) (by kernel_rfl) (by kernel_rfl) (by kernel_rfl) (by kernel_rfl) (by kernel_rfl) (by kernel_rfl) ⟨by kernel_rfl, by kernel_rfl, by kernel_rfl⟩
def MC : TI := ⟨1, 8, .other, [.bu], none⟩
theorem XQ : aT Try.prog 157 MC := af (by kernel_rfl) (by kernel_rfl) (by kernel_rfl) (by kernel_rfl) (by kernel_rfl) (by kernel_rfl) (by kernel_rfl) (by kernel_rfl) (by kernel_rfl) (by kernel_rfl) (by kernel_rfl) trivial
def MB : TI := ⟨1, 8, .ptr [], [.kr], none⟩
theorem XP : aT Try.prog 158 MB := af (by kernel_rfl) (by kernel_rfl) (by kernel_rfl) (by kernel_rfl) (by kernel_rfl) (by kernel_rfl) (by kernel_rfl) (by kernel_rfl) (by kernel_rfl) (by kernel_rfl) (by kernel_rfl) trivial
def MA : TI := ⟨1, 4, .int .i32, [.bu], none⟩
theorem XO : aT Try.prog 159 MA := af (by kernel_rfl) (by kernel_rfl) (by kernel_rfl) (by kernel_rfl) (by kernel_rfl) (by kernel_rfl) (by kernel_rfl) (by kernel_rfl) (by kernel_rfl) (by kernel_rfl) (by kernel_rfl) trivial
def Mz : TI := ⟨1, 4, .int .i32, [.bu], none⟩
theorem XN : aT Try.prog 160 Mz := af (by kernel_rfl) (by kernel_rfl) (by kernel_rfl) (by kernel_rfl) (by kernel_rfl) (by kernel_rfl) (by kernel_rfl) (by kernel_rfl) (by kernel_rfl) (by kernel_rfl) (by kernel_rfl) trivial
def My : TI := ⟨1, 8, .ptr [("Next", 118)], [.kr], none⟩
theorem XM : aT Try.prog 163 My := af (by kernel_rfl) (by kernel_rfl) (by kernel_rfl) (by kernel_rfl) (by kernel_rfl) (by kernel_rfl) (by kernel_rfl) (by kernel_rfl) (by kernel_rfl) (by kernel_rfl) (by kernel_rfl) trivial
def Mx : TI := ⟨128, 128, .array 128 5, List.replicate 128 (.u8 0), some (.arr 128 .u8)⟩
theorem XL : aT Try.prog 164 Mx := af (by kernel_rfl) (by kernel_rfl) (by kernel_rfl) (by kernel_rfl) (by kernel_rfl) (by kernel_rfl) (by kernel_rfl) (by kernel_rfl) (by kernel_rfl) (by kernel_rfl) (by kernel_rfl) ⟨by kernel_rfl, by kernel_rfl, by kernel_rfl⟩
def Mw : TI := ⟨1, 8, .other, [.bu], none⟩
theorem XK : aT Try.prog 165 Mw := af (by kernel_rfl) (by kernel_rfl) (by kernel_rfl) (by kernel_rfl) (by kernel_rfl) (by kernel_rfl) (by kernel_rfl) (by kernel_rfl) (by kernel_rfl) (by kernel_rfl) (by kernel_rfl) trivial
def Mv : TI := ⟨1, 8, .other, [.bu], none⟩
theorem XJ : aT Try.prog 166 Mv := af (by kernel_rfl) (by kernel_rfl) (by kernel_rfl) (by kernel_rfl) (by kernel_rfl) (by kernel_rfl) (by kernel_rfl) (by kernel_rfl) (by kernel_rfl) (by kernel_rfl) (by kernel_rfl) trivial
def Mu : TI := ⟨16, 128, .array 16 23, List.replicate 16 (.u64 0), some (.arr 16 .u64)⟩
theorem XI : aT Try.prog 167 Mu := af (by kernel_rfl) (by kernel_rfl) (by kernel_rfl) (by kernel_rfl) (by kernel_rfl) (by kernel_rfl) (by kernel_rfl) (by kernel_rfl) (by kernel_rfl) (by kernel_rfl) (by kernel_rfl) ⟨by kernel_rfl, by kernel_rfl, by kernel_rfl⟩
def Mt : TI := ⟨10, 160, .array 10 9, List.replicate 10 (.str []), some (.arr 10 .str)⟩
theorem XH : aT Try.prog 168 Mt := af (by kernel_rfl) (by kernel_rfl) (by kernel_rfl) (by kernel_rfl) (by kernel_rfl) (by kernel_rfl) (by kernel_rfl) (by kernel_rfl) (by kernel_rfl) (by kernel_rfl) (by kernel_rfl) ⟨by kernel_rfl, by kernel_rfl, by kernel_rfl⟩
def Ms : TI := ⟨1, 8, .other, [.bu], none⟩
theorem XG : aT Try.prog 169 Ms := af (by kernel_rfl) (by kernel_rfl) (by kernel_rfl) (by kernel_rfl) (by kernel_rfl) (by kernel_rfl) (by kernel_rfl) (by kernel_rfl) (by kernel_rfl) (by kernel_rfl) (by kernel_rfl) trivial
def Mr : TI := ⟨1, 8, .other, [.bu], none⟩
theorem XF : aT Try.prog 170 Mr := af (by kernel_rfl) (by kernel_rfl) (by kernel_rfl) (by kernel_rfl) (by kernel_rfl) (by kernel_rfl) (by kernel_rfl) (by kernel_rfl) (by kernel_rfl) (by kernel_rfl) (by kernel_rfl) trivial
def Mq : TI := ⟨1, 8, .other, [.bu], none⟩
theorem XE : aT Try.prog 171 Mq := af (by kernel_rfl) (by kernel_rfl) (by kernel_rfl) (by kernel_rfl) (by kernel_rfl) (by kernel_rfl) (by kernel_rfl) (by kernel_rfl) (by kernel_rfl) (by kernel_rfl) (by kernel_rfl) trivial
def Mp : TI := ⟨8, 64, .array 2 25, [.u64 0, .u64 0, .u64 0, .u64 0, .u64 0, .u64 0, .u64 0, .u64 0], some (.arr 2 .elem)⟩
theorem XD : aT Try.prog 172 Mp := af (by kernel_rfl) (by kernel_rfl) (by kernel_rfl) (by kernel_rfl) (by kernel_rfl) (by kernel_rfl) (by kernel_rfl) (by kernel_rfl) (by kernel_rfl) (by kernel_rfl) (by kernel_rfl) ⟨by kernel_rfl, by kernel_rfl, by kernel_rfl⟩
def Mo : TI := ⟨1, 8, .other, [.bu], none⟩
theorem XC : aT Try.prog 174 Mo := af (by kernel_rfl) (by kernel_rfl) (by kernel_rfl) (by kernel_rfl) (by kernel_rfl) (by kernel_rfl) (by kernel_rfl) (by kernel_rfl) (by kernel_rfl) (by kernel_rfl) (by kernel_rfl) trivial
def Mn : TI := ⟨1, 8, .ptr [("sigil/blake.mix", 129)], [.kr], none⟩
theorem XB : aT Try.prog 175 Mn := af (by kernel_rfl) (by kernel_rfl) (by kernel_rfl) (by kernel_rfl) (by kernel_rfl) (by kernel_rfl) (by kernel_rfl) (by kernel_rfl) (by kernel_rfl) (by kernel_rfl) (by kernel_rfl) trivial
def Mm : TI := ⟨1, 8, .other, [.bu], none⟩
theorem XA : aT Try.prog 176 Mm := af (by kernel_rfl) (by kernel_rfl) (by kernel_rfl) (by kernel_rfl) (by kernel_rfl) (by kernel_rfl) (by kernel_rfl) (by kernel_rfl) (by kernel_rfl) (by kernel_rfl) (by kernel_rfl) trivial
def Ml : TI := ⟨1, 16, .struct [(0, 9)], [.str []], some .str⟩
theorem Xz : aT Try.prog 177 Ml := af (by kernel_rfl) (by kernel_rfl) (by kernel_rfl) (by kernel_rfl) (by kernel_rfl) (by kernel_rfl) (by kernel_rfl) (by kernel_rfl) (by kernel_rfl) (by kernel_rfl) (by kernel_rfl) ⟨by kernel_rfl, by kernel_rfl, by kernel_rfl⟩
def Mk : TI := ⟨1, 16, .struct [(0, 9)], [.str []], some .str⟩
theorem Xy : aT Try.prog 178 Mk := af (by kernel_rfl) (by kernel_rfl) (by kernel_rfl) (by kernel_rfl) (by kernel_rfl) (by kernel_rfl) (by kernel_rfl) (by kernel_rfl) (by kernel_rfl) (by kernel_rfl) (by kernel_rfl) ⟨by kernel_rfl, by kernel_rfl, by kernel_rfl⟩
def Mj : TI := ⟨1, 8, .other, [.kr], none⟩
theorem Xx : aT Try.prog 179 Mj := af (by kernel_rfl) (by kernel_rfl) (by kernel_rfl) (by kernel_rfl) (by kernel_rfl) (by kernel_rfl) (by kernel_rfl) (by kernel_rfl) (by kernel_rfl) (by kernel_rfl) (by kernel_rfl) trivial
def te : TE := (ai 1 aaB (ai 2 aaA (ai 3 aaz (ai 4 aay (ai 5 aax (ai 6 aaw (ai 7 aav (ai 8 aau (ai 9 aat (ai 10 TB (ai 11 TA (ai 12 Tz (ai 15 Tx (ai 16 Tw (ai 17 Tv (ai 20 Tu (ai 21 Tt (ai 22 Tq (ai 23 Tp (ai 24 To (ai 25 Tn (ai 26 Tm (ai 27 Tl (ai 28 Tk (ai 29 Tj (ai 30 Ti (ai 31 Th (ai 32 Tg (ai 33 Tf (ai 34 Te (ai 36 Td (ai 37 Tc (ai 38 Tb (ai 39 Ta (ai 40 S9 (ai 41 S8 (ai 42 S7 (ai 43 S6 (ai 44 S5 (ai 45 S4 (ai 46 S3 (ai 48 S2 (ai 49 S1 (ai 50 S0 (ai 51 SZ (ai 52 SY (ai 53 SX (ai 54 SW (ai 55 SU (ai 57 SS (ai 58 SR (ai 59 SQ (ai 60 SP (ai 61 SO (ai 62 SN (ai 64 SM (ai 65 SL (ai 66 SK (ai 67 SJ (ai 69 SI (ai 70 SH (ai 71 SG (ai 73 SF (ai 74 SD (ai 75 SC (ai 77 SB (ai 78 SA (ai 79 Sz (ai 80 Sy (ai 81 Sw (ai 82 Sv (ai 83 Su (ai 84 Ss (ai 85 Sr (ai 86 Sq (ai 87 Sp (ai 88 So (ai 89 Sn (ai 90 Sm (ai 92 Sl (ai 93 Sk (ai 94 Sj (ai 95 Si (ai 96 Sg (ai 97 Sf (ai 98 Se (ai 99 Sd (ai 100 Ns (ai 101 Nr (ai 102 Nq (ai 103 Np (ai 105 Nn (ai 106 Nl (ai 107 Nk (ai 108 Nj (ai 109 Ni (ai 110 Nh (ai 112 Ng (ai 113 Nf (ai 115 Nd (ai 116 Nc (ai 117 Nb (ai 118 Na (ai 119 M9 (ai 120 M8 (ai 121 M7 (ai 122 M6 (ai 123 M5 (ai 124 M4 (ai 125 M3 (ai 126 M2 (ai 128 M1 (ai 129 M0 (ai 130 MZ (ai 131 MY (ai 132 MX (ai 133 MW (ai 134 MV (ai 135 MU (ai 136 MT (ai 137 MS (ai 138 MR (ai 139 MQ (ai 140 MP (ai 141 MO (ai 142 MN (ai 143 MM (ai 144 ML (ai 145 MK (ai 146 MJ (ai 147 MI (ai 148 MH (ai 151 MG (ai 154 MF (ai 155 ME (ai 156 MD (ai 157 MC (ai 158 MB (ai 159 MA (ai 160 Mz (ai 163 My (ai 164 Mx (ai 165 Mw (ai 166 Mv (ai 167 Mu (ai 168 Mt (ai 169 Ms (ai 170 Mr (ai 171 Mq (ai 172 Mp (ai 174 Mo (ai 175 Mn (ai 176 Mm (ai 177 Ml (ai 178 Mk (ai 179 Mj aeG))))))))))))))))))))))))))))))))))))))))))))))))))))))))))))))))))))))))))))))))))))))))))))))))))))))))))))))))))))))))))))))))))))))))))))))))))))))))))))
theorem ao : iS Try.prog te := (aa aeF (aa aeE (aa aeD (aa aeC (aa aeB (aa aeA (aa aez (aa aey (aa aex (aa acI (aa acH (aa acG (aa acF (aa acE (aa acD (aa acC (aa acB (aa acA (aa acz (aa acy (aa acx (aa acw (aa acv (aa acu (aa acs (aa acr (aa acq (aa acp (aa aco (aa acn (aa acm (aa ack (aa acj (aa aci (aa ach (aa acg (aa acf (aa ace (aa acd (aa acb (aa aca (aa ab9 (aa ab8 (aa ab7 (aa ab6 (aa ab5 (aa ab4 (aa ab3 (aa ab2 (aa ab1 (aa ab0 (aa abZ (aa abY (aa abX (aa abW (aa abV (aa abU (aa abT (aa abS (aa abR (aa abQ (aa abP (aa abO (aa abN (aa abM (aa abL (aa abK (aa abJ (aa abI (aa abH (aa abG (aa abF (aa abE (aa abD (aa abC (aa abB (aa abA (aa abz (aa aby (aa abx (aa abw (aa abv (aa abu (aa abt (aa abr (aa abq (aa abp (aa YD (aa YC (aa YB (aa YA (aa Yz (aa Yy (aa Yx (aa Yw (aa Yv (aa Yu (aa Yt (aa Ys (aa Yr (aa Yq (aa Yp (aa Yo (aa Yn (aa Ym (aa Yl (aa Yk (aa Yj (aa Yi (aa Yh (aa Yg (aa Yf (aa Ye (aa Yd (aa Yc (aa Yb (aa Ya (aa X9 (aa X8 (aa X7 (aa X6 (aa X5 (aa X4 (aa X3 (aa X2 (aa X1 (aa X0 (aa XZ (aa XY (aa XX (aa XW (aa XV (aa XU (aa XT (aa XS (aa XR (aa XQ (aa XP (aa XO (aa XN (aa XM (aa XL (aa XK (aa XJ (aa XI (aa XH (aa XG (aa XF (aa XE (aa XD (aa XC (aa XB (aa XA (aa Xz (aa Xy (aa Xx YE))))))))))))))))))))))))))))))))))))))))))))))))))))))))))))))))))))))))))))))))))))))))))))))))))))))))))))))))))))))))))))))))))))))))))))))))))))))))))))
theorem follows : Try.prog.follows .mixedOrders = true := by kernel_rfl
def E0 : Env := VQ
theorem aao : aN Try.prog E0 := VP
theorem W8 : ar E0 := KS
theorem aa1 : aY Try.prog te E0 := aG follows ao aao W8
end Go.Proofs.Ytohjofabochgfaa

namespace Go.Proofs.Ytohjofabochgfaa
open Sx Go
def rH (b : List UInt8) (k : Nat) : UInt64 := (List.range k).foldl (fun v (i : Nat) => v ||| bC (UInt8.toUInt64 (b.getD i 0)) (8 * (i : Int))) 0
theorem Pe (b : List UInt8) (k : Nat) : rH b (k + 1) = rH b k ||| bC (UInt8.toUInt64 (b.getD k 0)) (8 * (k : Int)) := by
  simp [rH, List.range_succ]
end Go.Proofs.Ytohjofabochgfaa

namespace Go.Proofs.Ytohjofabochgfaa
open Sx Go
set_option maxRecDepth 100000
def hG : ak := ⟨[.val false (.list .u8)], [], true, 0, false⟩
abbrev BP : Type := ((List (UInt8)) × Unit) × (Unit)
def qk : Shape := ⟨22, [(3, .val false .u64), (6, .val false (.list .u8)), (7, .val false .int), (8, .val false .int)], [], 0, true⟩
abbrev cd : Type := ((UInt64) × (List (UInt8)) × (Int) × (Int) × Unit) × (Unit)
def mQ : Shape := ⟨22, [(3, .val false .u64)], [], 0, true⟩
abbrev hC : Type := ((UInt64) × Unit) × (Unit)
def OJ : SE → Option Shape := nt [(0, mQ)] none
def D7 (a3 : UInt64) (a6 : List (UInt8)) (a7 : Int) (a8 : Int) : OT (Sum cd aS) :=
  (.br (decide (a8 < a7))
  (gd [inB a8 (List.length a6), inR ((8 : Int) * a8), decide ((0 : Int) ≤ (8 : Int) * a8), inR (a8 + (1 : Int))] (.ok (.inl ((a3 ||| bC (UInt8.toUInt64 (List.getD a6 (Int.toNat a8) (0 : UInt8))) ((8 : Int) * a8), (a6, (a7, (a8 + (1 : Int), ())))), ()))))
  (.ok (.inr ⟨(.exit 0, mQ), ((a3, ()), ())⟩)))
def ke (s : cd) : OT (Sum cd aS) := D7 (s.1.1) (s.1.2.1) (s.1.2.2.1) (s.1.2.2.2.1)
theorem ZS (s : cd) (Q : Sum cd aS → Prop) : wps te E0 az 1000 (bM (al Try.f75) 0) (qk.inj s) (dm qk OJ (Q : Sum qk.T aS → Prop)) = (ke s).wpR Q := by kernel_rfl
def vx (g0_0 : cd → hC) (s : cd) : OT aS := (.ok ⟨(.exit 0, mQ), g0_0 s⟩)
def D6 : aq := ⟨[.val false .u64], [], false⟩
def Hz : SV → Option aq := fun _ => some D6
def K4 (ok0 : cd → Bool) (g0_0 : cd → hC) (a0 : List (UInt8)) : OT hG.Y :=
  let z0 : (UInt64 × List UInt8 × Int × Int × PUnit) × PUnit := (((0 : UInt64), a0, (↑(List.length a0) : Int), (0 : Int), ()), ())
  (gd [ok0 z0] (.ok ⟨D6, (((g0_0 z0).fst.fst, ()), ())⟩))
theorem adW (ok0 : cd → Bool) (g0_0 : cd → hC) (x : BP) (Q : hG.Y → Prop) : wpf te E0 (bK 0 (dZ qk 0 ok0 (vx g0_0)) az) 1000 Try.f75 (hG.inp.inj x).tm (hG.inp.inj x).hp (fnK hG Hz Q) (fun _ _ => False) = (K4 ok0 g0_0 (x.1.1)).wpR Q := by kernel_rfl
theorem Q8 (ok0 : cd → Bool) (g0_0 : cd → hC) (h0 : ∀ s : cd, ok0 s = true → ∃ m e, aB (ke) m s = some e ∧ (vx g0_0 s).run = some e) (pre : BP → Bool) (F : BP → OT hG.Y) (hF : ∀ (x : BP) oy, pre x = true → (F x).run = some oy → (K4 ok0 g0_0 (x.1.1)).run = some oy) : ab Try.prog 75 (hG.aE pre F) :=
  aC ao aao aa1 (f := 75) (fn := Try.f75) (c := al Try.f75) (by kernel_rfl) (by kernel_rfl) (by kernel_rfl) (S := hG) (k := 0) (by kernel_rfl) (fun R hR => (aL (c := (al Try.f75)) (by kernel_rfl) (id := 0) (by kernel_rfl) (bJ ao aao aa1 (sh := qk) hR (xs := OJ) (aI (by kernel_rfl) (by kernel_rfl) hR) bk ae (n := 1000) (T := ke) (fun s Q => ZS s Q) (ok := ok0) (f := vx g0_0) h0) ae)) (n := 1000) (sel := Hz) (fun v o h => by cases h; rfl) (pre := pre) (F := F) (T := fun x => K4 ok0 g0_0 (x.1.1)) (fun x Q => adW ok0 g0_0 x Q) hF
def HA (s : cd) : Bool := decide (s.1.1 = 0 ∧ s.1.2.2.1 = (s.1.2.1.length : Int) ∧ s.1.2.2.2.1 = 0 ∧ s.1.2.1.length ≤ 4096)
def OK (s : cd) : hC := ((rH s.1.2.1 s.1.2.1.length, ()), ())
theorem ZU : ∀ s, HA s = true → ∃ m e, aB ke m s = some e ∧ (vx OK s).run = some e := by
  rintro ⟨⟨v, b, n, i, ⟨⟩⟩, ⟨⟩⟩ h
  have h' := of_decide_eq_true h
  dsimp only at h'
  obtain ⟨rfl, rfl, rfl, hl⟩ := h'
  have := xa (T := ke) (fun k => ((rH b k, b, (b.length : Int), (k : Int), ()), ())) b.length (e := ⟨(.exit 0, mQ), ((rH b b.length, ()), ())⟩) (fun k hk => ?_) ?_ 0 (Nat.zero_le _)
  · obtain ⟨m, hm⟩ := this
    exact ⟨m, _, hm, rfl⟩
  · unfold ke D7
    dsimp only
    rw [OT.ax (decide_eq_true (by omega)), aj (by simp; exact ⟨aQ (by omega), aX (by omega), by omega, aX (by omega)⟩), OT.dq, Pe]
    rfl
  · unfold ke D7
    dsimp only
    rw [OT.ay (decide_eq_false (by omega)), OT.dq]
def gZ (x : BP) : Bool := decide (x.1.1.length ≤ 4096)
def Wk (x : BP) : OT hG.Y := .ok ⟨D6, ((rH x.1.1 x.1.1.length, ()), ())⟩
theorem ZT : ab Try.prog 75 (hG.aE gZ Wk) := Q8 HA OK ZU _ _ fun x oy hp ho => by
  rw [← ho]
  have hp' := of_decide_eq_true hp
  refine (OT.ax ?_).trans ?_
  · exact decide_eq_true ⟨rfl, rfl, rfl, hp'⟩
  · rfl
def sY : bO := (hG.aE gZ Wk)
theorem K3 : ab Try.prog 75 sY := ZT
theorem K2 : aD sY := aA
def zD : Env := av 75 sY E0
theorem tN : aN Try.prog zD := ah K3 aao
theorem uW : ar zD := ac K2 W8
theorem LS : aY Try.prog te zD := aG follows ao tN uW
def kG : ak := ⟨[.val false .u64, .val false .int], [], true, 0, false⟩
abbrev PE : Type := ((UInt64) × (Int) × Unit) × (Unit)
def Jv : aq := ⟨[.val false .u64], [], false⟩
def Nx : SV → Option aq := fun _ => some Jv
def TN (a0 : UInt64) (a1 : Int) : OT kG.Y :=
  (.ok ⟨Jv, ((bC a0 (↑(UInt64.toNat (i2u a1 &&& (63 : UInt64))) : Int) ||| aP a0 (↑(UInt64.toNat ((64 : UInt64) - (i2u a1 &&& (63 : UInt64)))) : Int), ()), ())⟩)
theorem aeI (x : PE) (Q : kG.Y → Prop) : wpf te zD az 1000 Try.f131 (kG.inp.inj x).tm (kG.inp.inj x).hp (fnK kG Nx Q) (fun _ _ => False) = (TN (x.1.1) (x.1.2.1)).wpR Q := by kernel_rfl
theorem TM (pre : PE → Bool) (F : PE → OT kG.Y) (hF : ∀ (x : PE) oy, pre x = true → (F x).run = some oy → (TN (x.1.1) (x.1.2.1)).run = some oy) : ab Try.prog 131 (kG.aE pre F) :=
  aC ao tN LS (f := 131) (fn := Try.f131) (c := al Try.f131) (by kernel_rfl) (by kernel_rfl) (by kernel_rfl) (S := kG) (k := 0) (by kernel_rfl) (fun R hR => ae) (n := 1000) (sel := Nx) (fun v o h => by cases h; rfl) (pre := pre) (F := F) (T := fun x => TN (x.1.1) (x.1.2.1)) (fun x Q => aeI x Q) hF
def rotl (a : UInt64) (n : Int) : UInt64 := bC a (UInt64.toNat (i2u n &&& 63) : Int) ||| aP a (UInt64.toNat (64 - (i2u n &&& 63)) : Int)
def Ny (_ : PE) : Bool := true
def aaD (x : PE) : OT kG.Y := .ok ⟨Jv, ((rotl x.1.1 x.1.2.1, ()), ())⟩
theorem acN : ab Try.prog 131 (kG.aE Ny aaD) := TM _ _ fun x oy _ ho => ho
def wy : bO := (kG.aE Ny aaD)
theorem PD : ab Try.prog 131 wy := acN
theorem PC : aD wy := aA
def Iq : Env := av 131 wy zD
theorem y0 : aN Try.prog Iq := ah PD tN
theorem y4 : ar Iq := ac PC uW
theorem Ru : aY Try.prog te Iq := aG follows ao y0 y4
def lF : ak := ⟨[.val false .u8], [], true, 0, false⟩
abbrev Rf : Type := ((UInt8) × Unit) × (Unit)
def Ee : aq := ⟨[.val false .int], [], false⟩
def OQ : SV → Option aq := fun _ => some Ee
def Wu (a0 : UInt8) : OT lF.Y :=
  (.br (decide ((97 : UInt8) ≤ a0))
  (gd [inR ((↑(UInt8.toNat (a0 - (97 : UInt8))) : Int) + (10 : Int))] (.ok ⟨Ee, (((↑(UInt8.toNat (a0 - (97 : UInt8))) : Int) + (10 : Int), ()), ())⟩))
  (.ok ⟨Ee, (((↑(UInt8.toNat (a0 - (48 : UInt8))) : Int), ()), ())⟩))
theorem afm (x : Rf) (Q : lF.Y → Prop) : wpf te Iq az 1000 Try.f128 (lF.inp.inj x).tm (lF.inp.inj x).hp (fnK lF OQ Q) (fun _ _ => False) = (Wu (x.1.1)).wpR Q := by kernel_rfl
theorem Wt (pre : Rf → Bool) (F : Rf → OT lF.Y) (hF : ∀ (x : Rf) oy, pre x = true → (F x).run = some oy → (Wu (x.1.1)).run = some oy) : ab Try.prog 128 (lF.aE pre F) :=
  aC ao y0 Ru (f := 128) (fn := Try.f128) (c := al Try.f128) (by kernel_rfl) (by kernel_rfl) (by kernel_rfl) (S := lF) (k := 0) (by kernel_rfl) (fun R hR => ae) (n := 1000) (sel := OQ) (fun v o h => by cases h; rfl) (pre := pre) (F := F) (T := fun x => Wu (x.1.1)) (fun x Q => afm x Q) hF
def nib (c : UInt8) : Int := if 97 ≤ c then (UInt8.toNat (c - 97) : Int) + 10 else (UInt8.toNat (c - 48) : Int)
def OR (_ : Rf) : Bool := true
def OS (x : Rf) : OT lF.Y := .ok ⟨Ee, ((nib x.1.1, ()), ())⟩
theorem ad1 : ab Try.prog 128 (lF.aE OR OS) := Wt _ _ fun x oy _ ho => by
  rw [← ho]
  have hlt := (x.1.1 - 97).toNat_lt
  by_cases h : 97 ≤ x.1.1
  · refine (OT.ax (decide_eq_true h)).trans ((aj (by simp; exact aX (by omega))).trans ?_)
    simp only [OS, nib, if_pos h]
  · refine (OT.ay (decide_eq_false h)).trans ?_
    simp only [OS, nib, if_neg h]
def yu : bO := (lF.aE OR OS)
theorem Re : ab Try.prog 128 yu := ad1
theorem Rd : aD yu := aA
def IG : Env := av 128 yu Iq
theorem zE : aN Try.prog IG := ah Re y0
theorem zF : ar IG := ac Rd y4
theorem RB : aY Try.prog te IG := aG follows ao zE zF
def eY : ak := ⟨[], [], true, 0, false⟩
abbrev s4 : Type := (Unit) × (Unit)
def yr : aq := ⟨[.val true (.arr 8 .u64)], [], false⟩
def BS : SV → Option aq := fun _ => some yr
def Ec : OT eY.Y :=
  (.ok ⟨yr, (([(7640891576956012808 : UInt64), (13503953896175478587 : UInt64), (4354685564936845355 : UInt64), (11912009170470909681 : UInt64), (5840696475078001361 : UInt64), (11170449401992604703 : UInt64), (2270897969802886507 : UInt64), (6620516959819538809 : UInt64)], ()), ())⟩)
theorem ZV (x : s4) (Q : eY.Y → Prop) : wpf te IG az 1000 Try.f74 (eY.inp.inj x).tm (eY.inp.inj x).hp (fnK eY BS Q) (fun _ _ => False) = (Ec).wpR Q := by kernel_rfl
theorem La (pre : s4 → Bool) (F : s4 → OT eY.Y) (hF : ∀ (x : s4) oy, pre x = true → (F x).run = some oy → (Ec).run = some oy) : ab Try.prog 74 (eY.aE pre F) :=
  aC ao zE RB (f := 74) (fn := Try.f74) (c := al Try.f74) (by kernel_rfl) (by kernel_rfl) (by kernel_rfl) (S := eY) (k := 0) (by kernel_rfl) (fun R hR => ae) (n := 1000) (sel := BS) (fun v o h => by cases h; rfl) (pre := pre) (F := F) (T := fun x => Ec) (fun x Q => ZV x Q) hF
def bIV : List UInt64 := [0x6a09e667f3bcc908, 0xbb67ae8584caa73b, 0x3c6ef372fe94f82b, 0xa54ff53a5f1d36f1, 0x510e527fade682d1, 0x9b05688c2b3e6c1f, 0x1f83d9abfb41bd6b, 0x5be0cd19137e2179]
def BT (_ : s4) : Bool := true
def ON (_ : s4) : OT eY.Y := .ok ⟨yr, ((bIV, ()), ())⟩
theorem Wr : ab Try.prog 74 (eY.aE BT ON) := La _ _ fun x oy _ ho => ho
def ou : bO := (eY.aE BT ON)
theorem HE : ab Try.prog 74 ou := Wr
theorem HD : aD ou := aA
def rm : Env := av 74 ou IG
theorem oT : aN Try.prog rm := ah HE zE
theorem rl : ar rm := ac HD zF
theorem IE : aY Try.prog te rm := aG follows ao oT rl
def eZ : ak := ⟨[], [], true, 0, false⟩
abbrev s5 : Type := (Unit) × (Unit)
def yt : aq := ⟨[.val true (.arr 10 .str)], [], false⟩
def BU : SV → Option aq := fun _ => some yt
def Ed : OT eZ.Y :=
  (.ok ⟨yt, (([[(48 : UInt8), (49 : UInt8), (50 : UInt8), (51 : UInt8), (52 : UInt8), (53 : UInt8), (54 : UInt8), (55 : UInt8), (56 : UInt8), (57 : UInt8), (97 : UInt8), (98 : UInt8), (99 : UInt8), (100 : UInt8), (101 : UInt8), (102 : UInt8)], [(101 : UInt8), (97 : UInt8), (52 : UInt8), (56 : UInt8), (57 : UInt8), (102 : UInt8), (100 : UInt8), (54 : UInt8), (49 : UInt8), (99 : UInt8), (48 : UInt8), (50 : UInt8), (98 : UInt8), (55 : UInt8), (53 : UInt8), (51 : UInt8)], [(98 : UInt8), (56 : UInt8), (99 : UInt8), (48 : UInt8), (53 : UInt8), (50 : UInt8), (102 : UInt8), (100 : UInt8), (97 : UInt8), (101 : UInt8), (51 : UInt8), (54 : UInt8), (55 : UInt8), (49 : UInt8), (57 : UInt8), (52 : UInt8)], [(55 : UInt8), (57 : UInt8), (51 : UInt8), (49 : UInt8), (100 : UInt8), (99 : UInt8), (98 : UInt8), (101 : UInt8), (50 : UInt8), (54 : UInt8), (53 : UInt8), (97 : UInt8), (52 : UInt8), (48 : UInt8), (102 : UInt8), (56 : UInt8)], [(57 : UInt8), (48 : UInt8), (53 : UInt8), (55 : UInt8), (50 : UInt8), (52 : UInt8), (97 : UInt8), (102 : UInt8), (101 : UInt8), (49 : UInt8), (98 : UInt8), (99 : UInt8), (54 : UInt8), (56 : UInt8), (51 : UInt8), (100 : UInt8)], [(50 : UInt8), (99 : UInt8), (54 : UInt8), (97 : UInt8), (48 : UInt8), (98 : UInt8), (56 : UInt8), (51 : UInt8), (52 : UInt8), (100 : UInt8), (55 : UInt8), (53 : UInt8), (102 : UInt8), (101 : UInt8), (49 : UInt8), (57 : UInt8)], [(99 : UInt8), (53 : UInt8), (49 : UInt8), (102 : UInt8), (101 : UInt8), (100 : UInt8), (52 : UInt8), (97 : UInt8), (48 : UInt8), (55 : UInt8), (54 : UInt8), (51 : UInt8), (57 : UInt8), (50 : UInt8), (56 : UInt8), (98 : UInt8)], [(100 : UInt8), (98 : UInt8), (55 : UInt8), (101 : UInt8), (99 : UInt8), (49 : UInt8), (51 : UInt8), (57 : UInt8), (53 : UInt8), (48 : UInt8), (102 : UInt8), (52 : UInt8), (56 : UInt8), (54 : UInt8), (50 : UInt8), (97 : UInt8)], [(54 : UInt8), (102 : UInt8), (101 : UInt8), (57 : UInt8), (98 : UInt8), (51 : UInt8), (48 : UInt8), (56 : UInt8), (99 : UInt8), (50 : UInt8), (100 : UInt8), (55 : UInt8), (49 : UInt8), (52 : UInt8), (97 : UInt8), (53 : UInt8)], [(97 : UInt8), (50 : UInt8), (56 : UInt8), (52 : UInt8), (55 : UInt8), (54 : UInt8), (49 : UInt8), (53 : UInt8), (102 : UInt8), (98 : UInt8), (57 : UInt8), (101 : UInt8), (51 : UInt8), (99 : UInt8), (100 : UInt8), (48 : UInt8)]], ()), ())⟩)
theorem ZW (x : s5) (Q : eZ.Y → Prop) : wpf te rm az 1000 Try.f126 (eZ.inp.inj x).tm (eZ.inp.inj x).hp (fnK eZ BU Q) (fun _ _ => False) = (Ed).wpR Q := by kernel_rfl
theorem Lb (pre : s5 → Bool) (F : s5 → OT eZ.Y) (hF : ∀ (x : s5) oy, pre x = true → (F x).run = some oy → (Ed).run = some oy) : ab Try.prog 126 (eZ.aE pre F) :=
  aC ao oT IE (f := 126) (fn := Try.f126) (c := al Try.f126) (by kernel_rfl) (by kernel_rfl) (by kernel_rfl) (S := eZ) (k := 0) (by kernel_rfl) (fun R hR => ae) (n := 1000) (sel := BU) (fun v o h => by cases h; rfl) (pre := pre) (F := F) (T := fun x => Ed) (fun x Q => ZW x Q) hF
def ek : List (List UInt8) := [[48, 49, 50, 51, 52, 53, 54, 55, 56, 57, 97, 98, 99, 100, 101, 102],
  [101, 97, 52, 56, 57, 102, 100, 54, 49, 99, 48, 50, 98, 55, 53, 51],
  [98, 56, 99, 48, 53, 50, 102, 100, 97, 101, 51, 54, 55, 49, 57, 52],
  [55, 57, 51, 49, 100, 99, 98, 101, 50, 54, 53, 97, 52, 48, 102, 56],
  [57, 48, 53, 55, 50, 52, 97, 102, 101, 49, 98, 99, 54, 56, 51, 100],
  [50, 99, 54, 97, 48, 98, 56, 51, 52, 100, 55, 53, 102, 101, 49, 57],
  [99, 53, 49, 102, 101, 100, 52, 97, 48, 55, 54, 51, 57, 50, 56, 98],
  [100, 98, 55, 101, 99, 49, 51, 57, 53, 48, 102, 52, 56, 54, 50, 97],
  [54, 102, 101, 57, 98, 51, 48, 56, 99, 50, 100, 55, 49, 52, 97, 53],
  [97, 50, 56, 52, 55, 54, 49, 53, 102, 98, 57, 101, 51, 99, 100, 48]]
def BV (_ : s5) : Bool := true
def OO (_ : s5) : OT eZ.Y := .ok ⟨yt, ((ek, ()), ())⟩
theorem Ws : ab Try.prog 126 (eZ.aE BV OO) := Lb _ _ fun x oy _ ho => ho
def ox : bO := (eZ.aE BV OO)
theorem HG : ab Try.prog 126 ox := Ws
theorem HF : aD ox := aA
def rp : Env := av 126 ox rm
theorem oU : aN Try.prog rp := ah HG oT
theorem rn : ar rp := ac HF rl
theorem IF : aY Try.prog te rp := aG follows ao oU rn
def lH : ak := ⟨[.ptr 0 0 0, .val false .int, .val false .int, .val false .int, .val false .int, .val false .u64, .val false .u64], [(0, .row .u64)], false, 1, true⟩
abbrev Rl : Type := ((Unit) × (Int) × (Int) × (Int) × (Int) × (UInt64) × (UInt64) × Unit) × ((List (UInt64)) × Unit)
def Le : aq := ⟨[], [(0, .row .u64)], false⟩
def OV : SV → Option aq := fun _ => some Le
def Wy (a1 : Int) (a2 : Int) (a3 : Int) (a4 : Int) (a5 : UInt64) (a6 : UInt64) (c0 : List (UInt64)) : OT lH.Y :=
  let z0 : Bool := inB a1 16
  let z1 : Nat := List.length c0
  let z2 : Bool := decide (Int.toNat a1 + 0 < z1)
  let z3 : Bool := inB a2 16
  let z4 : Bool := inB a4 16
  let z5 : List UInt64 := List.set c0 (Int.toNat a1 + 0) (List.getD c0 (Int.toNat a1 + 0) (0 : UInt64) + (List.getD c0 (Int.toNat a2 + 0) (0 : UInt64) + a5))
  let z6 : Nat := List.length z5
  let z7 : Bool := decide (Int.toNat a4 + 0 < z6)
  let z8 : Bool := inB a3 16
  let z9 : List UInt64 := List.set z5 (Int.toNat a4 + 0) (rotl (List.getD z5 (Int.toNat a4 + 0) (0 : UInt64) ^^^ List.getD z5 (Int.toNat a1 + 0) (0 : UInt64)) (-32 : Int))
  let z10 : Nat := List.length z9
  let z11 : Bool := decide (Int.toNat a3 + 0 < z10)
  let z12 : List UInt64 := List.set z9 (Int.toNat a3 + 0) (List.getD z9 (Int.toNat a3 + 0) (0 : UInt64) + List.getD z9 (Int.toNat a4 + 0) (0 : UInt64))
  let z13 : Nat := List.length z12
  let z14 : Bool := decide (Int.toNat a2 + 0 < z13)
  let z15 : List UInt64 := List.set z12 (Int.toNat a2 + 0) (rotl (List.getD z12 (Int.toNat a2 + 0) (0 : UInt64) ^^^ List.getD z12 (Int.toNat a3 + 0) (0 : UInt64)) (-24 : Int))
  let z16 : Nat := List.length z15
  let z17 : Bool := decide (Int.toNat a1 + 0 < z16)
  let z18 : List UInt64 := List.set z15 (Int.toNat a1 + 0) (List.getD z15 (Int.toNat a1 + 0) (0 : UInt64) + (List.getD z15 (Int.toNat a2 + 0) (0 : UInt64) + a6))
  let z19 : Nat := List.length z18
  let z20 : Bool := decide (Int.toNat a4 + 0 < z19)
  let z21 : List UInt64 := List.set z18 (Int.toNat a4 + 0) (rotl (List.getD z18 (Int.toNat a4 + 0) (0 : UInt64) ^^^ List.getD z18 (Int.toNat a1 + 0) (0 : UInt64)) (-16 : Int))
  let z22 : Nat := List.length z21
  let z23 : Bool := decide (Int.toNat a3 + 0 < z22)
  let z24 : List UInt64 := List.set z21 (Int.toNat a3 + 0) (List.getD z21 (Int.toNat a3 + 0) (0 : UInt64) + List.getD z21 (Int.toNat a4 + 0) (0 : UInt64))
  let z25 : Nat := List.length z24
  let z26 : Bool := decide (Int.toNat a2 + 0 < z25)
  (gd [z0, z2, z3, decide (Int.toNat a2 + 0 < z1), z0, z2, z4, z7, z0, decide (Int.toNat a1 + 0 < z6), z4, z7, z8, z11, z4, decide (Int.toNat a4 + 0 < z10), z8, z11, z3, z14, z8, decide (Int.toNat a3 + 0 < z13), z3, z14, z0, z17, z3, decide (Int.toNat a2 + 0 < z16), z0, z17, z4, z20, z0, decide (Int.toNat a1 + 0 < z19), z4, z20, z8, z23, z4, decide (Int.toNat a4 + 0 < z22), z8, z23, z3, z26, z8, decide (Int.toNat a3 + 0 < z25), z3, z26] (.ok ⟨Le, ((), (List.set z24 (Int.toNat a2 + 0) (rotl (List.getD z24 (Int.toNat a2 + 0) (0 : UInt64) ^^^ List.getD z24 (Int.toNat a3 + 0) (0 : UInt64)) (-63 : Int)), ()))⟩))
theorem afo (x : Rl) (Q : lH.Y → Prop) : wpf te rp az 1000 Try.f129 (lH.inp.inj x).tm (lH.inp.inj x).hp (fnK lH OV Q) (fun _ _ => False) = (Wy (x.1.2.1) (x.1.2.2.1) (x.1.2.2.2.1) (x.1.2.2.2.2.1) (x.1.2.2.2.2.2.1) (x.1.2.2.2.2.2.2.1) (x.2.1)).wpR Q := by kernel_rfl
theorem Wx (pre : Rl → Bool) (F : Rl → OT lH.Y) (hF : ∀ (x : Rl) oy, pre x = true → (F x).run = some oy → (Wy (x.1.2.1) (x.1.2.2.1) (x.1.2.2.2.1) (x.1.2.2.2.2.1) (x.1.2.2.2.2.2.1) (x.1.2.2.2.2.2.2.1) (x.2.1)).run = some oy) : ab Try.prog 129 (lH.aE pre F) :=
  aC ao oU IF (f := 129) (fn := Try.f129) (c := al Try.f129) (by kernel_rfl) (by kernel_rfl) (by kernel_rfl) (S := lH) (k := 1) (by kernel_rfl) (fun R hR => ae) (n := 1000) (sel := OV) (fun v o h => by cases h; rfl) (pre := pre) (F := F) (T := fun x => Wy (x.1.2.1) (x.1.2.2.1) (x.1.2.2.2.1) (x.1.2.2.2.2.1) (x.1.2.2.2.2.2.1) (x.1.2.2.2.2.2.2.1) (x.2.1)) (fun x Q => afo x Q) hF
def Zt (v : List UInt64) (a b c d : Nat) (x y : UInt64) : List UInt64 :=
  let v1 := v.set a (v.getD a 0 + (v.getD b 0 + x))
  let v2 := v1.set d (rotl (v1.getD d 0 ^^^ v1.getD a 0) (-32))
  let v3 := v2.set c (v2.getD c 0 + v2.getD d 0)
  let v4 := v3.set b (rotl (v3.getD b 0 ^^^ v3.getD c 0) (-24))
  let v5 := v4.set a (v4.getD a 0 + (v4.getD b 0 + y))
  let v6 := v5.set d (rotl (v5.getD d 0 ^^^ v5.getD a 0) (-16))
  let v7 := v6.set c (v6.getD c 0 + v6.getD d 0)
  v7.set b (rotl (v7.getD b 0 ^^^ v7.getD c 0) (-63))
theorem j3 (v : List UInt64) (a b c d : Nat) (x y : UInt64) : (Zt v a b c d x y).length = v.length := by
  simp only [Zt, List.length_set]
def kg (x : Rl) : Bool := inB x.1.2.1 16 && inB x.1.2.2.1 16 && inB x.1.2.2.2.1 16 && inB x.1.2.2.2.2.1 16 && decide (x.2.1.length = 16)
def aaY (x : Rl) : OT lH.Y := .ok ⟨Le, ((), (Zt x.2.1 x.1.2.1.toNat x.1.2.2.1.toNat x.1.2.2.2.1.toNat x.1.2.2.2.2.1.toNat x.1.2.2.2.2.2.1 x.1.2.2.2.2.2.2.1, ()))⟩
theorem ad3 : ab Try.prog 129 (lH.aE kg aaY) := Wx _ _ fun x oy hp ho => by
  rw [← ho]
  obtain ⟨⟨⟨⟩, a, b, c, d, x, y, ⟨⟩⟩, ⟨v, ⟨⟩⟩⟩ := x
  simp only [kg, Bool.and_eq_true, decide_eq_true_eq] at hp
  obtain ⟨⟨⟨⟨ha, hb⟩, hc⟩, hd⟩, hv⟩ := hp
  have na := Gs ha
  have nb := Gs hb
  have nc := Gs hc
  have nd := Gs hd
  refine (aj ?_).trans rfl
  simp only [List.length_set, hv, ha, hb, hc, hd, Nat.add_zero, na, nb, nc, nd, decide_true, List.all_cons, List.all_nil, Bool.and_self]
def yA : bO := (lH.aE kg aaY)
theorem Rk : ab Try.prog 129 yA := ad3
theorem Rj : aD yA := aA
def II : Env := av 129 yA rp
theorem zH : aN Try.prog II := ah Rk oU
theorem zI : ar II := ac Rj rn
theorem RC : aY Try.prog te II := aG follows ao zH zI
def yI : ak := ⟨[.val false .int, .ptr 0 0 0, .ptr 1 0 0], [(0, .row .u64), (1, .cells [.val false .str])], false, 2, true⟩
abbrev ael : Type := ((Int) × (Unit) × (Unit) × Unit) × ((List (UInt64)) × ((List UInt8) × Unit) × Unit)
def WO : aq := ⟨[.val false .u64], [(0, .row .u64), (1, .cells [.val false .str])], false⟩
def WN : SV → Option aq := fun _ => some WO
def ad7 (a0 : Int) (c0 : List (UInt64)) (c1_0 : List UInt8) : OT yI.Y :=
  let z0 : Int := nib (List.getD c1_0 (Int.toNat a0) (0 : UInt8))
  (gd [inB a0 (List.length c1_0), inB z0 16, decide (Int.toNat z0 + 0 < List.length c0)] (.ok ⟨WO, ((List.getD c0 (Int.toNat z0 + 0) (0 : UInt64), ()), (c0, ((c1_0, ()), ())))⟩))
theorem afV (x : ael) (Q : yI.Y → Prop) : wpf te II az 1000 Try.f127 (yI.inp.inj x).tm (yI.inp.inj x).hp (fnK yI WN Q) (fun _ _ => False) = (ad7 (x.1.1) (x.2.1) (x.2.2.1.1)).wpR Q := by kernel_rfl
theorem aaj (pre : ael → Bool) (F : ael → OT yI.Y) (hF : ∀ (x : ael) oy, pre x = true → (F x).run = some oy → (ad7 (x.1.1) (x.2.1) (x.2.2.1.1)).run = some oy) : ab Try.prog 127 (yI.aE pre F) :=
  aC ao zH RC (f := 127) (fn := Try.f127) (c := al Try.f127) (by kernel_rfl) (by kernel_rfl) (by kernel_rfl) (S := yI) (k := 2) (by kernel_rfl) (fun R hR => ae) (n := 1000) (sel := WN) (fun v o h => by cases h; rfl) (pre := pre) (F := F) (T := fun x => ad7 (x.1.1) (x.2.1) (x.2.2.1.1)) (fun x Q => afV x Q) hF
def atF (m : List UInt64) (row : List UInt8) (i : Int) : UInt64 := m.getD (nib (row.getD i.toNat 0)).toNat 0
def kj (x : ael) : Bool := inB x.1.1 x.2.2.1.1.length && inB (nib (x.2.2.1.1.getD x.1.1.toNat 0)) 16 && decide (x.2.1.length = 16)
def afq (x : ael) : OT yI.Y := .ok ⟨WO, ((atF x.2.1 x.2.2.1.1 x.1.1, ()), (x.2.1, ((x.2.2.1.1, ()), ())))⟩
theorem afp : ab Try.prog 127 (yI.aE kj afq) := aaj _ _ fun x oy hp ho => by
  rw [← ho]
  obtain ⟨⟨i, ⟨⟩, ⟨⟩, ⟨⟩⟩, ⟨m, ⟨row, ⟨⟩⟩, ⟨⟩⟩⟩ := x
  simp only [kj, Bool.and_eq_true, decide_eq_true_eq] at hp
  obtain ⟨⟨h1, h2⟩, h3⟩ := hp
  have n2 := Gs h2
  refine (aj ?_).trans rfl
  simp only [h1, h2, h3, Nat.add_zero, n2, decide_true, List.all_cons, List.all_nil, Bool.and_self]
def Ep : bO := (yI.aE kj afq)
theorem WQ : ab Try.prog 127 Ep := afp
theorem WM : aD Ep := aA
def Aj : Env := av 127 Ep II
theorem iK : aN Try.prog Aj := ah WQ zH
theorem Co : ar Aj := ac WM zI
theorem jJ : aY Try.prog te Aj := aG follows ao iK Co
def ib : ak := ⟨[.val true (.arr 8 .u64), .val true (.arr 128 .u8), .val false .u64, .val false .bool], [], true, 0, false⟩
abbrev B5 : Type := ((List (UInt64)) × (List (UInt8)) × (UInt64) × (Bool) × Unit) × (Unit)
def qy : Shape := ⟨127, [(4, .ptr 0 0 0), (5, .ptr 1 0 0), (8, .ptr 2 0 0), (9, .ptr 3 0 0), (11, .ptr 4 0 0), (37, .val false .int)], [(0, .row .u64), (1, .row .u8), (2, .row .u64), (3, .row .u64), (4, .row .u64)], 0, true⟩
abbrev bU : Type := ((Unit) × (Unit) × (Unit) × (Unit) × (Unit) × (Int) × Unit) × ((List (UInt64)) × (List (UInt8)) × (List (UInt64)) × (List (UInt64)) × (List (UInt64)) × Unit)
def m5 : Shape := ⟨127, [(4, .ptr 0 0 0), (8, .ptr 1 0 0), (9, .ptr 2 0 0), (11, .ptr 3 0 0)], [(0, .row .u64), (1, .row .u64), (2, .row .u64), (3, .row .u64)], 0, true⟩
abbrev ia : Type := ((Unit) × (Unit) × (Unit) × (Unit) × Unit) × ((List (UInt64)) × (List (UInt64)) × (List (UInt64)) × (List (UInt64)) × Unit)
def O3 : SE → Option Shape := nt [(0, m5)] none
def aah (a37 : Int) (c0 : List (UInt64)) (c1 : List (UInt8)) (c2 : List (UInt64)) (c3 : List (UInt64)) (c4 : List (UInt64)) : OT (Sum bU aS) :=
  let z0 : Bool := inR ((8 : Int) * a37)
  let z1 : List UInt8 := List.take (Int.toNat ((8 : Int) * a37 + (8 : Int) - (8 : Int) * a37)) (List.drop (Int.toNat ((8 : Int) * a37)) c1)
  (.br (decide (a37 < (16 : Int)))
  (gd [z0, z0, inR ((8 : Int) * a37 + (8 : Int)), decide (128 ≤ List.length c1) && cV ((8 : Int) * a37) ((8 : Int) * a37 + (8 : Int)) 128, gZ ((z1, ()), ()), inB a37 16, decide (Int.toNat a37 + 0 < List.length c4), inR (a37 + (1 : Int))] (.ok (.inl (((), ((), ((), ((), ((), (a37 + (1 : Int), ())))))), (c0, (c1, (c2, (c3, (List.set c4 (Int.toNat a37 + 0) (rH z1 (List.length z1)), ())))))))))
  (.ok (.inr ⟨(.exit 0, m5), (((), ((), ((), ((), ())))), (c0, (c2, (c3, (c4, ())))))⟩)))
def qD (s : bU) : OT (Sum bU aS) := aah (s.1.2.2.2.2.2.1) (s.2.1) (s.2.2.1) (s.2.2.2.1) (s.2.2.2.2.1) (s.2.2.2.2.2.1)
theorem Z6 (s : bU) (Q : Sum bU aS → Prop) : wps te Aj az 1000 (bM (al Try.f123) 0) (qy.inj s) (dm qy O3 (Q : Sum qy.T aS → Prop)) = (qD s).wpR Q := by kernel_rfl
def vH (g0_0 : bU → ia) (s : bU) : OT aS := (.ok ⟨(.exit 0, m5), g0_0 s⟩)
def qx : Shape := ⟨127, [(4, .ptr 0 0 0), (8, .ptr 1 0 0), (9, .ptr 2 0 0), (11, .ptr 3 0 0), (13, .ptr 4 0 0), (51, .val false .int)], [(0, .row .u64), (1, .row .u64), (2, .row .u64), (3, .row .u64), (4, .row .str)], 0, true⟩
abbrev bT : Type := ((Unit) × (Unit) × (Unit) × (Unit) × (Unit) × (Int) × Unit) × ((List (UInt64)) × (List (UInt64)) × (List (UInt64)) × (List (UInt64)) × (List (List UInt8)) × Unit)
def qw : Shape := ⟨127, [(4, .ptr 0 0 0), (8, .ptr 1 0 0), (9, .ptr 2 0 0), (11, .ptr 3 0 0), (13, .ptr 4 0 0), (16, .fn 127 [3, 5]), (51, .val false .int), (59, .val false .int)], [(0, .row .u64), (1, .row .u64), (2, .row .u64), (3, .row .u64), (4, .row .str), (5, .cells [.val false .str])], 0, true⟩
abbrev bm : Type := ((Unit) × (Unit) × (Unit) × (Unit) × (Unit) × (Unit) × (Int) × (Int) × Unit) × ((List (UInt64)) × (List (UInt64)) × (List (UInt64)) × (List (UInt64)) × (List (List UInt8)) × ((List UInt8) × Unit) × Unit)
def mZ : Shape := ⟨127, [(4, .ptr 0 0 0), (8, .ptr 1 0 0), (9, .ptr 2 0 0), (11, .ptr 3 0 0), (13, .ptr 4 0 0), (16, .fn 127 [3, 5]), (51, .val false .int)], [(0, .row .u64), (1, .row .u64), (2, .row .u64), (3, .row .u64), (4, .row .str), (5, .cells [.val false .str])], 0, true⟩
abbrev dE : Type := ((Unit) × (Unit) × (Unit) × (Unit) × (Unit) × (Unit) × (Int) × Unit) × ((List (UInt64)) × (List (UInt64)) × (List (UInt64)) × (List (UInt64)) × (List (List UInt8)) × ((List UInt8) × Unit) × Unit)
def O1 : SE → Option Shape := nt [(4, mZ)] none
def aaf (a51 : Int) (a59 : Int) (c0 : List (UInt64)) (c1 : List (UInt64)) (c2 : List (UInt64)) (c3 : List (UInt64)) (c4 : List (List UInt8)) (c5_0 : List UInt8) : OT (Sum bm aS) :=
  let z0 : Bool := inR ((2 : Int) * a59)
  let z1 : PUnit × PUnit × PUnit := ((), (), ())
  let z2 : List UInt64 × (List UInt8 × PUnit) × PUnit := (c3, (c5_0, ()), ())
  let z3 : UInt64 := atF c3 c5_0 ((2 : Int) * a59)
  let z4 : UInt64 := atF c3 c5_0 ((2 : Int) * a59 + (1 : Int))
  (.br (decide (a59 < (4 : Int)))
  (gd [inR ((4 : Int) + a59), inR ((8 : Int) + a59), inR ((12 : Int) + a59), z0, kj (((2 : Int) * a59, z1), z2), z0, inR ((2 : Int) * a59 + (1 : Int)), kj (((2 : Int) * a59 + (1 : Int), z1), z2), kg (((), a59, (4 : Int) + a59, (8 : Int) + a59, (12 : Int) + a59, z3, z4, ()), c2, ()), inR (a59 + (1 : Int))] (.ok (.inl (((), ((), ((), ((), ((), ((), (a51, (a59 + (1 : Int), ())))))))), (c0, (c1, (Zt c2 (Int.toNat a59) (Int.toNat ((4 : Int) + a59)) (Int.toNat ((8 : Int) + a59)) (Int.toNat ((12 : Int) + a59)) z3 z4, (c3, (c4, ((c5_0, ()), ()))))))))))
  (.ok (.inr ⟨(.exit 4, mZ), (((), ((), ((), ((), ((), ((), (a51, ()))))))), (c0, (c1, (c2, (c3, (c4, ((c5_0, ()), ())))))))⟩)))
def qB (s : bm) : OT (Sum bm aS) := aaf (s.1.2.2.2.2.2.2.1) (s.1.2.2.2.2.2.2.2.1) (s.2.1) (s.2.2.1) (s.2.2.2.1) (s.2.2.2.2.1) (s.2.2.2.2.2.1) (s.2.2.2.2.2.2.1.1)
theorem Z4 (s : bm) (Q : Sum bm aS → Prop) : wps te Aj az 1000 (bM (bM (al Try.f123) 2) 4) (qw.inj s) (dm qw O1 (Q : Sum qw.T aS → Prop)) = (qB s).wpR Q := by kernel_rfl
def vF (g4_4 : bm → dE) (s : bm) : OT aS := (.ok ⟨(.exit 4, mZ), g4_4 s⟩)
def qv : Shape := ⟨127, [(4, .ptr 0 0 0), (8, .ptr 1 0 0), (9, .ptr 2 0 0), (11, .ptr 3 0 0), (13, .ptr 4 0 0), (16, .fn 127 [3, 5]), (51, .val false .int), (80, .val false .int)], [(0, .row .u64), (1, .row .u64), (2, .row .u64), (3, .row .u64), (4, .row .str), (5, .cells [.val false .str])], 0, true⟩
abbrev bl : Type := ((Unit) × (Unit) × (Unit) × (Unit) × (Unit) × (Unit) × (Int) × (Int) × Unit) × ((List (UInt64)) × (List (UInt64)) × (List (UInt64)) × (List (UInt64)) × (List (List UInt8)) × ((List UInt8) × Unit) × Unit)
def mY : Shape := ⟨127, [(4, .ptr 0 0 0), (8, .ptr 1 0 0), (9, .ptr 2 0 0), (11, .ptr 3 0 0), (13, .ptr 4 0 0), (51, .val false .int)], [(0, .row .u64), (1, .row .u64), (2, .row .u64), (3, .row .u64), (4, .row .str)], 0, true⟩
abbrev dD : Type := ((Unit) × (Unit) × (Unit) × (Unit) × (Unit) × (Int) × Unit) × ((List (UInt64)) × (List (UInt64)) × (List (UInt64)) × (List (UInt64)) × (List (List UInt8)) × Unit)
def O0 : SE → Option Shape := nt [(6, mY)] none
def aae (a51 : Int) (a80 : Int) (c0 : List (UInt64)) (c1 : List (UInt64)) (c2 : List (UInt64)) (c3 : List (UInt64)) (c4 : List (List UInt8)) (c5_0 : List UInt8) : OT (Sum bl aS) :=
  let z0 : Bool := inR (a80 + (1 : Int))
  let z1 : Int := (4 : Int) + Int.tmod (a80 + (1 : Int)) (4 : Int)
  let z2 : Int := (8 : Int) + Int.tmod (a80 + (2 : Int)) (4 : Int)
  let z3 : Int := (12 : Int) + Int.tmod (a80 + (3 : Int)) (4 : Int)
  let z4 : Bool := inR ((2 : Int) * a80)
  let z5 : PUnit × PUnit × PUnit := ((), (), ())
  let z6 : List UInt64 × (List UInt8 × PUnit) × PUnit := (c3, (c5_0, ()), ())
  let z7 : UInt64 := atF c3 c5_0 ((8 : Int) + (2 : Int) * a80)
  let z8 : UInt64 := atF c3 c5_0 ((9 : Int) + (2 : Int) * a80)
  (.br (decide (a80 < (4 : Int)))
  (gd [z0, inR z1, inR (a80 + (2 : Int)), inR z2, inR (a80 + (3 : Int)), inR z3, z4, inR ((8 : Int) + (2 : Int) * a80), kj (((8 : Int) + (2 : Int) * a80, z5), z6), z4, inR ((9 : Int) + (2 : Int) * a80), kj (((9 : Int) + (2 : Int) * a80, z5), z6), kg (((), a80, z1, z2, z3, z7, z8, ()), c2, ()), z0] (.ok (.inl (((), ((), ((), ((), ((), ((), (a51, (a80 + (1 : Int), ())))))))), (c0, (c1, (Zt c2 (Int.toNat a80) (Int.toNat z1) (Int.toNat z2) (Int.toNat z3) z7 z8, (c3, (c4, ((c5_0, ()), ()))))))))))
  (.ok (.inr ⟨(.exit 6, mY), (((), ((), ((), ((), ((), (a51, ())))))), (c0, (c1, (c2, (c3, (c4, ()))))))⟩)))
def qA (s : bl) : OT (Sum bl aS) := aae (s.1.2.2.2.2.2.2.1) (s.1.2.2.2.2.2.2.2.1) (s.2.1) (s.2.2.1) (s.2.2.2.1) (s.2.2.2.2.1) (s.2.2.2.2.2.1) (s.2.2.2.2.2.2.1.1)
theorem Z3 (s : bl) (Q : Sum bl aS → Prop) : wps te Aj az 1000 (bM (bM (al Try.f123) 2) 6) (qv.inj s) (dm qv O0 (Q : Sum qv.T aS → Prop)) = (qA s).wpR Q := by kernel_rfl
def vE (g6_6 : bl → dD) (s : bl) : OT aS := (.ok ⟨(.exit 6, mY), g6_6 s⟩)
def m4 : Shape := ⟨127, [(4, .ptr 0 0 0), (8, .ptr 1 0 0), (9, .ptr 2 0 0)], [(0, .row .u64), (1, .row .u64), (2, .row .u64)], 0, true⟩
abbrev hZ : Type := ((Unit) × (Unit) × (Unit) × Unit) × ((List (UInt64)) × (List (UInt64)) × (List (UInt64)) × Unit)
def O2 : SE → Option Shape := nt [(2, m4)] none
def aag (ok4 : bm → Bool) (g4_4 : bm → dE) (ok6 : bl → Bool) (g6_6 : bl → dD) (a51 : Int) (c0 : List (UInt64)) (c1 : List (UInt64)) (c2 : List (UInt64)) (c3 : List (UInt64)) (c4 : List (List UInt8)) : OT (Sum bT aS) :=
  let z0 : Int := Int.tmod a51 (10 : Int)
  let z1 : (PUnit × PUnit × PUnit × PUnit × PUnit × PUnit × Int × Int × PUnit) × List UInt64 × List UInt64 × List UInt64 × List UInt64 × List (List UInt8) × (List UInt8 × PUnit) × PUnit := (((), (), (), (), (), (), a51, (0 : Int), ()), c0, c1, c2, c3, c4, (List.getD c4 (Int.toNat z0 + 0) [], ()), ())
  let z2 : (PUnit × PUnit × PUnit × PUnit × PUnit × PUnit × Int × PUnit) × List UInt64 × List UInt64 × List UInt64 × List UInt64 × List (List UInt8) × (List UInt8 × PUnit) × PUnit := g4_4 z1
  let z3 := z2.snd
  let z4 := z3.snd
  let z5 := z4.snd
  let z6 := z5.snd
  let z7 := z6.snd
  let z8 : (PUnit × PUnit × PUnit × PUnit × PUnit × PUnit × Int × Int × PUnit) × List UInt64 × List UInt64 × List UInt64 × List UInt64 × List (List UInt8) × (List UInt8 × PUnit) × PUnit := (((), (), (), (), (), (), z2.fst.snd.snd.snd.snd.snd.snd.fst, (0 : Int), ()), z3.fst, z4.fst, z5.fst, z6.fst, z7.fst, (z7.snd.fst.fst, ()), ())
  let z9 : (PUnit × PUnit × PUnit × PUnit × PUnit × Int × PUnit) × List UInt64 × List UInt64 × List UInt64 × List UInt64 × List (List UInt8) × PUnit := g6_6 z8
  let z10 := z9.snd
  let z11 := z10.snd
  let z12 := z11.snd
  let z13 := z12.snd
  (.br (decide (a51 < (12 : Int)))
  (gd [inB z0 10, decide (Int.toNat z0 + 0 < List.length c4), ok4 z1, ok6 z8, inR (z9.fst.snd.snd.snd.snd.snd.fst + (1 : Int))] (.ok (.inl (((), ((), ((), ((), ((), (z9.fst.snd.snd.snd.snd.snd.fst + (1 : Int), ())))))), (z10.fst, (z11.fst, (z12.fst, (z13.fst, (z13.snd.fst, ())))))))))
  (.ok (.inr ⟨(.exit 2, m4), (((), ((), ((), ()))), (c0, (c1, (c2, ()))))⟩)))
def qC (ok4 : bm → Bool) (g4_4 : bm → dE) (ok6 : bl → Bool) (g6_6 : bl → dD) (s : bT) : OT (Sum bT aS) := aag ok4 g4_4 ok6 g6_6 (s.1.2.2.2.2.2.1) (s.2.1) (s.2.2.1) (s.2.2.2.1) (s.2.2.2.2.1) (s.2.2.2.2.2.1)
theorem Z5 (ok4 : bm → Bool) (g4_4 : bm → dE) (ok6 : bl → Bool) (g6_6 : bl → dD) (s : bT) (Q : Sum bT aS → Prop) : wps te Aj (bK 6 (dZ qv 6 ok6 (vE g6_6)) (bK 4 (dZ qw 4 ok4 (vF g4_4)) az)) 1000 (bM (al Try.f123) 2) (qx.inj s) (dm qx O2 (Q : Sum qx.T aS → Prop)) = (qC ok4 g4_4 ok6 g6_6 s).wpR Q := by kernel_rfl
def vG (g2_2 : bT → hZ) (s : bT) : OT aS := (.ok ⟨(.exit 2, m4), g2_2 s⟩)
def qu : Shape := ⟨127, [(4, .ptr 0 0 0), (8, .ptr 1 0 0), (9, .ptr 2 0 0), (109, .val false .int)], [(0, .row .u64), (1, .row .u64), (2, .row .u64)], 0, true⟩
abbrev bR : Type := ((Unit) × (Unit) × (Unit) × (Int) × Unit) × ((List (UInt64)) × (List (UInt64)) × (List (UInt64)) × Unit)
def mX : Shape := ⟨127, [(4, .ptr 0 0 0), (8, .ptr 1 0 0)], [(0, .row .u64), (1, .row .u64)], 0, true⟩
abbrev hY : Type := ((Unit) × (Unit) × Unit) × ((List (UInt64)) × (List (UInt64)) × Unit)
def OZ : SE → Option Shape := nt [(8, mX)] none
def aad (a109 : Int) (c0 : List (UInt64)) (c1 : List (UInt64)) (c2 : List (UInt64)) : OT (Sum bR aS) :=
  let z0 : Bool := inB a109 8
  let z1 : Bool := decide (Int.toNat a109 + 0 < List.length c0)
  let z2 : Nat := List.length c2
  (.br (decide (a109 < (8 : Int)))
  (gd [z0, z1, inB a109 16, decide (Int.toNat a109 + 0 < z2), inR (a109 + (8 : Int)), inB (a109 + (8 : Int)) 16, decide (Int.toNat (a109 + (8 : Int)) + 0 < z2), z0, z1, inR (a109 + (1 : Int))] (.ok (.inl (((), ((), ((), (a109 + (1 : Int), ())))), (List.set c0 (Int.toNat a109 + 0) (List.getD c0 (Int.toNat a109 + 0) (0 : UInt64) ^^^ (List.getD c2 (Int.toNat a109 + 0) (0 : UInt64) ^^^ List.getD c2 (Int.toNat (a109 + (8 : Int)) + 0) (0 : UInt64))), (c1, (c2, ())))))))
  (.ok (.inr ⟨(.exit 8, mX), (((), ((), ())), (c0, (c1, ())))⟩)))
def qz (s : bR) : OT (Sum bR aS) := aad (s.1.2.2.2.1) (s.2.1) (s.2.2.1) (s.2.2.2.1)
theorem Z2 (s : bR) (Q : Sum bR aS → Prop) : wps te Aj az 1000 (bM (al Try.f123) 8) (qu.inj s) (dm qu OZ (Q : Sum qu.T aS → Prop)) = (qz s).wpR Q := by kernel_rfl
def vD (g8_8 : bR → hY) (s : bR) : OT aS := (.ok ⟨(.exit 8, mX), g8_8 s⟩)
def vC : aq := ⟨[.val true (.arr 8 .u64)], [], false⟩
def H4 : SV → Option aq := fun _ => some vC
def Lr (ok0 : bU → Bool) (g0_0 : bU → ia) (ok4 : bm → Bool) (g4_4 : bm → dE) (ok6 : bl → Bool) (g6_6 : bl → dD) (ok2 : bT → Bool) (g2_2 : bT → hZ) (ok8 : bR → Bool) (g8_8 : bR → hY) (a0 : List (UInt64)) (a1 : List (UInt8)) (a2 : UInt64) (a3 : Bool) : OT ib.Y :=
  let z0 : PUnit × PUnit × PUnit × PUnit × PUnit × Int × PUnit := ((), (), (), (), (), (0 : Int), ())
  let z1 : List UInt64 := tab a0 8 (0 : UInt64)
  let z2 : List UInt8 := tab a1 128 (0 : UInt8)
  let z3 : List UInt64 := [] ++ (List.take 8 z1 ++ List.drop (0 + min (List.length z1) 8) [(0 : UInt64), (0 : UInt64), (0 : UInt64), (0 : UInt64), (0 : UInt64), (0 : UInt64), (0 : UInt64), (0 : UInt64), (0 : UInt64), (0 : UInt64), (0 : UInt64), (0 : UInt64), (0 : UInt64), (0 : UInt64), (0 : UInt64), (0 : UInt64)])
  let z4 : List UInt64 := List.take 8 z3 ++ ([(7640891576956012808 : UInt64), (13503953896175478587 : UInt64), (4354685564936845355 : UInt64), (11912009170470909681 : UInt64), (5840696475078001361 : UInt64), (11170449401992604703 : UInt64), (2270897969802886507 : UInt64), (6620516959819538809 : UInt64)] ++ List.drop 16 z3)
  let z5 : List UInt64 := List.set z4 12 (List.getD z4 12 0 ^^^ a2)
  let z6 : List UInt64 × PUnit := ([(0 : UInt64), (0 : UInt64), (0 : UInt64), (0 : UInt64), (0 : UInt64), (0 : UInt64), (0 : UInt64), (0 : UInt64), (0 : UInt64), (0 : UInt64), (0 : UInt64), (0 : UInt64), (0 : UInt64), (0 : UInt64), (0 : UInt64), (0 : UInt64)], ())
  let z7 : (PUnit × PUnit × PUnit × PUnit × PUnit × Int × PUnit) × List UInt64 × List UInt8 × List UInt64 × List UInt64 × List UInt64 × PUnit := (z0, z1, z2, [(0 : UInt64), (0 : UInt64), (0 : UInt64), (0 : UInt64), (0 : UInt64), (0 : UInt64), (0 : UInt64), (0 : UInt64)], List.set z5 14 (~~~List.getD z5 14 0), z6)
  let z8 : PUnit × PUnit × PUnit × PUnit × PUnit × Int × PUnit := ((), (), (), (), (), (0 : Int), ())
  let z9 := (g0_0 z7).snd
  let z10 := z9.snd
  let z11 := z10.snd
  let z12 : List (List UInt8) × PUnit := ([List.getD ek 0 [], List.getD ek 1 [], List.getD ek 2 [], List.getD ek 3 [], List.getD ek 4 [], List.getD ek 5 [], List.getD ek 6 [], List.getD ek 7 [], List.getD ek 8 [], List.getD ek 9 []], ())
  let z13 : (PUnit × PUnit × PUnit × PUnit × PUnit × Int × PUnit) × List UInt64 × List UInt64 × List UInt64 × List UInt64 × List (List UInt8) × PUnit := (z8, z9.fst, z10.fst, z11.fst, z11.snd.fst, z12)
  let z14 : PUnit × PUnit × PUnit × Int × PUnit := ((), (), (), (0 : Int), ())
  let z15 := (g2_2 z13).snd
  let z16 := z15.snd
  let z17 : (PUnit × PUnit × PUnit × Int × PUnit) × List UInt64 × List UInt64 × List UInt64 × PUnit := (z14, z15.fst, z16.fst, z16.snd.fst, ())
  let z18 := (g8_8 z17).snd
  let z19 := z18.fst
  let z20 := z18.snd.fst
  let z21 : List UInt64 := lay z20 z19 8 (0 : UInt64)
  let z22 : (PUnit × PUnit × PUnit × PUnit × PUnit × Int × PUnit) × List UInt64 × List UInt8 × List UInt64 × List UInt64 × List UInt64 × PUnit := (z0, z1, z2, [(0 : UInt64), (0 : UInt64), (0 : UInt64), (0 : UInt64), (0 : UInt64), (0 : UInt64), (0 : UInt64), (0 : UInt64)], z5, z6)
  let z23 := (g0_0 z22).snd
  let z24 := z23.snd
  let z25 := z24.snd
  let z26 : (PUnit × PUnit × PUnit × PUnit × PUnit × Int × PUnit) × List UInt64 × List UInt64 × List UInt64 × List UInt64 × List (List UInt8) × PUnit := (z8, z23.fst, z24.fst, z25.fst, z25.snd.fst, z12)
  let z27 := (g2_2 z26).snd
  let z28 := z27.snd
  let z29 : (PUnit × PUnit × PUnit × Int × PUnit) × List UInt64 × List UInt64 × List UInt64 × PUnit := (z14, z27.fst, z28.fst, z28.snd.fst, ())
  let z30 := (g8_8 z29).snd
  let z31 := z30.fst
  let z32 := z30.snd.fst
  let z33 : List UInt64 := lay z32 z31 8 (0 : UInt64)
  (.br (a3)
  (gd [ok0 z7, ok2 z13, ok8 z17, decide (8 ≤ List.length z19), decide ((8 / 1 : Nat) + 0 ≤ List.length z20), decide (8 ≤ List.length z21)] (.ok ⟨vC, ((tab z21 8 (0 : UInt64), ()), ())⟩))
  (gd [ok0 z22, ok2 z26, ok8 z29, decide (8 ≤ List.length z31), decide ((8 / 1 : Nat) + 0 ≤ List.length z32), decide (8 ≤ List.length z33)] (.ok ⟨vC, ((tab z33 8 (0 : UInt64), ()), ())⟩)))
theorem ad6 (ok0 : bU → Bool) (g0_0 : bU → ia) (ok4 : bm → Bool) (g4_4 : bm → dE) (ok6 : bl → Bool) (g6_6 : bl → dD) (ok2 : bT → Bool) (g2_2 : bT → hZ) (ok8 : bR → Bool) (g8_8 : bR → hY) (x : B5) (Q : ib.Y → Prop) : wpf te Aj (bK 8 (dZ qu 8 ok8 (vD g8_8)) (bK 2 (dZ qx 2 ok2 (vG g2_2)) (bK 0 (dZ qy 0 ok0 (vH g0_0)) az))) 1000 Try.f123 (ib.inp.inj x).tm (ib.inp.inj x).hp (fnK ib H4 Q) (fun _ _ => False) = (Lr ok0 g0_0 ok4 g4_4 ok6 g6_6 ok2 g2_2 ok8 g8_8 (x.1.1) (x.1.2.1) (x.1.2.2.1) (x.1.2.2.2.1)).wpR Q := by kernel_rfl
theorem Rn (ok0 : bU → Bool) (g0_0 : bU → ia) (ok4 : bm → Bool) (g4_4 : bm → dE) (ok6 : bl → Bool) (g6_6 : bl → dD) (ok2 : bT → Bool) (g2_2 : bT → hZ) (ok8 : bR → Bool) (g8_8 : bR → hY) (h0 : ∀ s : bU, ok0 s = true → ∃ m e, aB (qD) m s = some e ∧ (vH g0_0 s).run = some e) (h4 : ∀ s : bm, ok4 s = true → ∃ m e, aB (qB) m s = some e ∧ (vF g4_4 s).run = some e) (h6 : ∀ s : bl, ok6 s = true → ∃ m e, aB (qA) m s = some e ∧ (vE g6_6 s).run = some e) (h2 : ∀ s : bT, ok2 s = true → ∃ m e, aB (qC ok4 g4_4 ok6 g6_6) m s = some e ∧ (vG g2_2 s).run = some e) (h8 : ∀ s : bR, ok8 s = true → ∃ m e, aB (qz) m s = some e ∧ (vD g8_8 s).run = some e) (pre : B5 → Bool) (F : B5 → OT ib.Y) (hF : ∀ (x : B5) oy, pre x = true → (F x).run = some oy → (Lr ok0 g0_0 ok4 g4_4 ok6 g6_6 ok2 g2_2 ok8 g8_8 (x.1.1) (x.1.2.1) (x.1.2.2.1) (x.1.2.2.2.1)).run = some oy) : ab Try.prog 123 (ib.aE pre F) :=
  aC ao iK jJ (f := 123) (fn := Try.f123) (c := al Try.f123) (by kernel_rfl) (by kernel_rfl) (by kernel_rfl) (S := ib) (k := 0) (by kernel_rfl) (fun R hR => (aL (c := (al Try.f123)) (by kernel_rfl) (id := 8) (by kernel_rfl) (bJ ao iK jJ (sh := qu) hR (xs := OZ) (aI (by kernel_rfl) (by kernel_rfl) hR) bk ae (n := 1000) (T := qz) (fun s Q => Z2 s Q) (ok := ok8) (f := vD g8_8) h8) (aL (c := (al Try.f123)) (by kernel_rfl) (id := 2) (by kernel_rfl) (bJ ao iK jJ (sh := qx) hR (xs := O2) (aI (by kernel_rfl) (by kernel_rfl) hR) bk (aL (c := (bM (al Try.f123) 2)) (by kernel_rfl) (id := 6) (by kernel_rfl) (bJ ao iK jJ (sh := qv) hR (xs := O0) (aI (by kernel_rfl) (by kernel_rfl) hR) bk ae (n := 1000) (T := qA) (fun s Q => Z3 s Q) (ok := ok6) (f := vE g6_6) h6) (aL (c := (bM (al Try.f123) 2)) (by kernel_rfl) (id := 4) (by kernel_rfl) (bJ ao iK jJ (sh := qw) hR (xs := O1) (aI (by kernel_rfl) (by kernel_rfl) hR) bk ae (n := 1000) (T := qB) (fun s Q => Z4 s Q) (ok := ok4) (f := vF g4_4) h4) ae)) (n := 1000) (T := qC ok4 g4_4 ok6 g6_6) (fun s Q => Z5 ok4 g4_4 ok6 g6_6 s Q) (ok := ok2) (f := vG g2_2) h2) (aL (c := (al Try.f123)) (by kernel_rfl) (id := 0) (by kernel_rfl) (bJ ao iK jJ (sh := qy) hR (xs := O3) (aI (by kernel_rfl) (by kernel_rfl) hR) bk ae (n := 1000) (T := qD) (fun s Q => Z6 s Q) (ok := ok0) (f := vH g0_0) h0) ae)))) (n := 1000) (sel := H4) (fun v o h => by cases h; rfl) (pre := pre) (F := F) (T := fun x => Lr ok0 g0_0 ok4 g4_4 ok6 g6_6 ok2 g2_2 ok8 g8_8 (x.1.1) (x.1.2.1) (x.1.2.2.1) (x.1.2.2.2.1)) (fun x Q => ad6 ok0 g0_0 ok4 g4_4 ok6 g6_6 ok2 g2_2 ok8 g8_8 x Q) hF
def aaq (b : List UInt8) (i : Nat) : UInt64 := rH ((b.drop (8 * i)).take 8) 8
def nQ (b : List UInt8) : List UInt64 := upto (fun k m => m.set k (aaq b k)) (List.replicate 16 0) 16
def CM (row : List UInt8) : Bool := decide (row.length = 16) && (List.range 16).all fun i => inB (nib (row.getD i 0)) 16
theorem TL {row : List UInt8} (h : CM row = true) {i : Nat} (hi : i < 16) : inB (nib (row.getD i 0)) 16 = true := by
  simp only [CM, Bool.and_eq_true, List.all_eq_true] at h
  exact h.2 i (by simpa using hi)
theorem m6 {m : List UInt64} {row : List UInt8} (hm : m.length = 16) (hr : CM row = true) {i : Int} (h0 : 0 ≤ i) (h1 : i < 16) (u : Unit × Unit × Unit) (u2 : Unit) (u3 : Unit) : kj ((i, u), (m, ((row, u2), u3))) = true := by
  have hl : row.length = 16 := by
    simp only [CM, Bool.and_eq_true, decide_eq_true_eq] at hr
    exact hr.1
  have := TL hr (i := i.toNat) (by omega)
  simp only [kj, Bool.and_eq_true, decide_eq_true_eq]
  exact ⟨⟨aQ (by omega), this⟩, hm⟩
theorem yB {v : List UInt64} (hv : v.length = 16) {a b c d : Int} (ha : 0 ≤ a ∧ a < 16) (hb : 0 ≤ b ∧ b < 16) (hc : 0 ≤ c ∧ c < 16) (hd : 0 ≤ d ∧ d < 16) (x y : UInt64) (u1 u2 u3 : Unit) : kg ((u1, a, b, c, d, x, y, u2), (v, u3)) = true := by
  simp only [kg, Bool.and_eq_true, decide_eq_true_eq]
  exact ⟨⟨⟨⟨aQ ha, aQ hb⟩, aQ hc⟩, aQ hd⟩, hv⟩
def yH (s : bU) : Bool := decide (s.1.2.2.2.2.2.1 = 0 ∧ s.2.2.1.length = 128 ∧ s.2.2.2.2.2.1 = List.replicate 16 0)
def mW (s : bU) : ia := (((), (), (), (), ()), (s.2.1, s.2.2.2.1, s.2.2.2.2.1, nQ s.2.2.1, ()))
theorem aac : ∀ s : bU, yH s = true → ∃ m e, aB qD m s = some e ∧ (vH mW s).run = some e := by
  rintro ⟨⟨⟨⟩, ⟨⟩, ⟨⟩, ⟨⟩, ⟨⟩, i, ⟨⟩⟩, ⟨c0, c1, c2, c3, c4, ⟨⟩⟩⟩ h
  have h' := of_decide_eq_true h
  dsimp only at h'
  obtain ⟨rfl, hl, rfl⟩ := h'
  have := (bt (T := qD) (fun k m => ((((), (), (), (), (), (k : Int), ()), (c0, c1, c2, c3, m, ())) : bU)) (fun k m => m.set k (aaq c1 k))
    (fun m => (⟨(.exit 0, m5), (((), (), (), (), ()), (c0, c2, c3, m, ()))⟩ : aS)) 16 (List.replicate 16 0) (fun _ m => m.length = 16) (by simp) (fun k m hk hm => ⟨?_, by rw [List.length_set]; exact hm⟩) (fun m hm => ?_)).1
  · obtain ⟨n, hn⟩ := this
    exact ⟨n, _, hn, rfl⟩
  · have e1 : (8 * (k : Int) + 8 - 8 * (k : Int)).toNat = 8 := by omega
    have e2 : (8 * (k : Int)).toNat = 8 * k := by omega
    have hw : ((c1.drop (8 * k)).take 8).length = 8 := by simp; omega
    refine (OT.ax (decide_eq_true (by dsimp only; omega))).trans ((aj ?_).trans ?_)
    · simp only [e1, e2, hl, hm, List.all_cons, List.all_nil, Bool.and_true, Bool.and_eq_true]
      refine ⟨aX (by omega), aX (by omega), aX (by omega), ⟨by decide, fp (by omega)⟩, ?_, aQ (by omega), decide_eq_true (by omega), aX (by omega)⟩
      simp only [gZ, hw]
      decide
    · simp only [OT.dq, e1, e2, hw, Nat.add_zero]
      rfl
  · exact OT.ay (decide_eq_false (by dsimp only; omega))
def Vb (m : List UInt64) (row : List UInt8) (v : List UInt64) : List UInt64 := upto (fun k v => Zt v k (4 + k) (8 + k) (12 + k) (atF m row (2 * (k : Int))) (atF m row (2 * (k : Int) + 1))) v 4
def Va (m : List UInt64) (row : List UInt8) (v : List UInt64) : List UInt64 := upto (fun k v => Zt v k (4 + (k + 1) % 4) (8 + (k + 2) % 4) (12 + (k + 3) % 4) (atF m row (8 + 2 * (k : Int))) (atF m row (9 + 2 * (k : Int)))) v 4
theorem k9 (m : List UInt64) (row : List UInt8) (v : List UInt64) : (Vb m row v).length = v.length := by simp only [Vb, upto, j3]
theorem ui (m : List UInt64) (row : List UInt8) (v : List UInt64) : (Va m row v).length = v.length := by simp only [Va, upto, j3]
def jD (s : bm) : Bool := decide (s.1.2.2.2.2.2.2.2.1 = 0 ∧ s.2.2.2.1.length = 16 ∧ s.2.2.2.2.1.length = 16) && CM s.2.2.2.2.2.2.1.1
def ki (s : bm) : dE := (((), (), (), (), (), (), s.1.2.2.2.2.2.2.1, ()), (s.2.1, s.2.2.1, Vb s.2.2.2.2.1 s.2.2.2.2.2.2.1.1 s.2.2.2.1, s.2.2.2.2.1, s.2.2.2.2.2.1, (s.2.2.2.2.2.2.1.1, ()), ()))
theorem aaa : ∀ s : bm, jD s = true → ∃ m e, aB qB m s = some e ∧ (vF ki s).run = some e := by
  rintro ⟨⟨⟨⟩, ⟨⟩, ⟨⟩, ⟨⟩, ⟨⟩, ⟨⟩, r, i, ⟨⟩⟩, ⟨c0, c1, v, m, c4, ⟨row, ⟨⟩⟩, ⟨⟩⟩⟩ h
  simp only [jD, Bool.and_eq_true, decide_eq_true_eq] at h
  obtain ⟨⟨rfl, hv, hm⟩, hr⟩ := h
  have := (bt (T := qB) (fun k v => ((((), (), (), (), (), (), r, (k : Int), ()), (c0, c1, v, m, c4, (row, ()), ())) : bm)) (fun k v => Zt v k (4 + k) (8 + k) (12 + k) (atF m row (2 * (k : Int))) (atF m row (2 * (k : Int) + 1)))
    (fun v => (⟨(.exit 4, mZ), (((), (), (), (), (), (), r, ()), (c0, c1, v, m, c4, (row, ()), ()))⟩ : aS)) 4 v (fun _ v => v.length = 16) hv (fun k v hk hv => ⟨?_, by rw [j3]; exact hv⟩) (fun v hv => ?_)).1
  · obtain ⟨n, hn⟩ := this
    exact ⟨n, _, hn, rfl⟩
  · have e1 : (4 + (k : Int)).toNat = 4 + k := by omega
    have e2 : (8 + (k : Int)).toNat = 8 + k := by omega
    have e3 : (12 + (k : Int)).toNat = 12 + k := by omega
    refine (OT.ax (decide_eq_true (by dsimp only; omega))).trans ((aj ?_).trans ?_)
    · simp only [List.all_cons, List.all_nil, Bool.and_true, Bool.and_eq_true]
      exact ⟨aX (by omega), aX (by omega), aX (by omega), aX (by omega), m6 hm hr (by omega) (by omega) _ _ _, aX (by omega), aX (by omega), m6 hm hr (by omega) (by omega) _ _ _, yB hv (by omega) (by omega) (by omega) (by omega) _ _ _ _ _, aX (by omega)⟩
    · simp only [OT.dq, e1, e2, e3]
      rfl
  · exact OT.ay (decide_eq_false (by dsimp only; omega))
def jC (s : bl) : Bool := decide (s.1.2.2.2.2.2.2.2.1 = 0 ∧ s.2.2.2.1.length = 16 ∧ s.2.2.2.2.1.length = 16) && CM s.2.2.2.2.2.2.1.1
def mU (s : bl) : dD := (((), (), (), (), (), s.1.2.2.2.2.2.2.1, ()), (s.2.1, s.2.2.1, Va s.2.2.2.2.1 s.2.2.2.2.2.2.1.1 s.2.2.2.1, s.2.2.2.2.1, s.2.2.2.2.2.1, ()))
theorem Z9 : ∀ s : bl, jC s = true → ∃ m e, aB qA m s = some e ∧ (vE mU s).run = some e := by
  rintro ⟨⟨⟨⟩, ⟨⟩, ⟨⟩, ⟨⟩, ⟨⟩, ⟨⟩, r, i, ⟨⟩⟩, ⟨c0, c1, v, m, c4, ⟨row, ⟨⟩⟩, ⟨⟩⟩⟩ h
  simp only [jC, Bool.and_eq_true, decide_eq_true_eq] at h
  obtain ⟨⟨rfl, hv, hm⟩, hr⟩ := h
  have := (bt (T := qA) (fun k v => ((((), (), (), (), (), (), r, (k : Int), ()), (c0, c1, v, m, c4, (row, ()), ())) : bl)) (fun k v => Zt v k (4 + (k + 1) % 4) (8 + (k + 2) % 4) (12 + (k + 3) % 4) (atF m row (8 + 2 * (k : Int))) (atF m row (9 + 2 * (k : Int))))
    (fun v => (⟨(.exit 6, mY), (((), (), (), (), (), r, ()), (c0, c1, v, m, c4, ()))⟩ : aS)) 4 v (fun _ v => v.length = 16) hv (fun k v hk hv => ⟨?_, by rw [j3]; exact hv⟩) (fun v hv => ?_)).1
  · obtain ⟨n, hn⟩ := this
    exact ⟨n, _, hn, rfl⟩
  · have t1 : Int.tmod ((k : Int) + 1) 4 = (((k + 1) % 4 : Nat) : Int) := by rw [Int.tmod_eq_emod_of_nonneg (by omega)]; omega
    have t2 : Int.tmod ((k : Int) + 2) 4 = (((k + 2) % 4 : Nat) : Int) := by rw [Int.tmod_eq_emod_of_nonneg (by omega)]; omega
    have t3 : Int.tmod ((k : Int) + 3) 4 = (((k + 3) % 4 : Nat) : Int) := by rw [Int.tmod_eq_emod_of_nonneg (by omega)]; omega
    have e1 : (4 + (((k + 1) % 4 : Nat) : Int)).toNat = 4 + (k + 1) % 4 := by omega
    have e2 : (8 + (((k + 2) % 4 : Nat) : Int)).toNat = 8 + (k + 2) % 4 := by omega
    have e3 : (12 + (((k + 3) % 4 : Nat) : Int)).toNat = 12 + (k + 3) % 4 := by omega
    refine (OT.ax (decide_eq_true (by dsimp only; omega))).trans ((aj ?_).trans ?_)
    · simp only [t1, t2, t3, List.all_cons, List.all_nil, Bool.and_true, Bool.and_eq_true]
      exact ⟨aX (by omega), aX (by omega), aX (by omega), aX (by omega), aX (by omega), aX (by omega), aX (by omega), aX (by omega), m6 hm hr (by omega) (by omega) _ _ _, aX (by omega), aX (by omega), m6 hm hr (by omega) (by omega) _ _ _, yB hv (by omega) (by omega) (by omega) (by omega) _ _ _ _ _, aX (by omega)⟩
    · simp only [OT.dq, t1, t2, t3, e1, e2, e3]
      rfl
  · exact OT.ay (decide_eq_false (by dsimp only; omega))
def rowAt (k : Nat) : List UInt8 := ek.getD (k % 10) []
theorem YO (k : Nat) : CM (rowAt k) = true := by
  have : k % 10 < 10 := Nat.mod_lt _ (by decide)
  unfold rowAt
  generalize k % 10 = j at this
  have h : ∀ j : Fin 10, CM (ek.getD j.val []) = true := by decide +kernel
  exact h ⟨j, this⟩
def pz (m : List UInt64) (v : List UInt64) : List UInt64 := upto (fun k v => Va m (rowAt k) (Vb m (rowAt k) v)) v 12
theorem jM {f : Nat → List UInt64 → List UInt64} (hf : ∀ k v, (f k v).length = v.length) (v : List UInt64) : ∀ n, (upto f v n).length = v.length
  | 0 => rfl
  | n + 1 => by simp only [upto, hf, jM hf v n]
def yG (s : bT) : Bool := decide (s.1.2.2.2.2.2.1 = 0 ∧ s.2.2.2.1.length = 16 ∧ s.2.2.2.2.1.length = 16 ∧ s.2.2.2.2.2.1 = ek)
def mV (s : bT) : hZ := (((), (), (), ()), (s.2.1, s.2.2.1, pz s.2.2.2.2.1 s.2.2.2.1, ()))
theorem aab : ∀ s : bT, yG s = true → ∃ m e, aB (qC jD ki jC mU) m s = some e ∧ (vG mV s).run = some e := by
  rintro ⟨⟨⟨⟩, ⟨⟩, ⟨⟩, ⟨⟩, ⟨⟩, i, ⟨⟩⟩, ⟨c0, c1, v, m, c4, ⟨⟩⟩⟩ h
  have h' := of_decide_eq_true h
  dsimp only at h'
  obtain ⟨rfl, hv, hm, rfl⟩ := h'
  have := (bt (T := qC jD ki jC mU) (fun k v => ((((), (), (), (), (), (k : Int), ()), (c0, c1, v, m, ek, ())) : bT)) (fun k v => Va m (rowAt k) (Vb m (rowAt k) v))
    (fun v => (⟨(.exit 2, m4), (((), (), (), ()), (c0, c1, v, ()))⟩ : aS)) 12 v (fun _ v => v.length = 16) hv (fun k v hk hv => ⟨?_, by rw [ui, k9]; exact hv⟩) (fun v hv => ?_)).1
  · obtain ⟨n, hn⟩ := this
    exact ⟨n, _, hn, rfl⟩
  · have t1 : Int.tmod (k : Int) 10 = ((k % 10 : Nat) : Int) := by rw [Int.tmod_eq_emod_of_nonneg (by omega)]; omega
    have e1 : ((k % 10 : Nat) : Int).toNat = k % 10 := by omega
    have hr : CM (ek.getD (k % 10) []) = true := YO k
    refine (OT.ax (decide_eq_true (by dsimp only; omega))).trans ((aj ?_).trans ?_)
    · simp only [t1, e1, List.all_cons, List.all_nil, Bool.and_true, Bool.and_eq_true]
      refine ⟨aQ (by omega), decide_eq_true (show k % 10 + 0 < 10 by omega), ?_, ?_, ?_⟩
      · simp only [jD, Bool.and_eq_true, decide_eq_true_eq]
        exact ⟨⟨trivial, hv, hm⟩, hr⟩
      · simp only [jC, ki, Bool.and_eq_true, decide_eq_true_eq]
        exact ⟨⟨trivial, by rw [k9]; exact hv, hm⟩, hr⟩
      · exact aX (by simp only [mU, ki]; omega)
    · have hrow : ek.getD (k % 10) [] = rowAt k := rfl
      simp only [OT.dq, t1, e1, Nat.add_zero, mU, ki, hrow]
      rfl
  · exact OT.ay (decide_eq_false (by dsimp only; omega))
def NW (h v : List UInt64) : List UInt64 := upto (fun k h => h.set k (h.getD k 0 ^^^ (v.getD k 0 ^^^ v.getD (k + 8) 0))) h 8
def yF (s : bR) : Bool := decide (s.1.2.2.2.1 = 0 ∧ s.2.1.length = 8 ∧ s.2.2.2.1.length = 16)
def mT (s : bR) : hY := (((), (), ()), (NW s.2.1 s.2.2.2.1, s.2.2.1, ()))
theorem Z8 : ∀ s : bR, yF s = true → ∃ m e, aB qz m s = some e ∧ (vD mT s).run = some e := by
  rintro ⟨⟨⟨⟩, ⟨⟩, ⟨⟩, i, ⟨⟩⟩, ⟨h, c1, v, ⟨⟩⟩⟩ hh
  have h' := of_decide_eq_true hh
  dsimp only at h'
  obtain ⟨rfl, hl, hv⟩ := h'
  have := (bt (T := qz) (fun k h => ((((), (), (), (k : Int), ()), (h, c1, v, ())) : bR)) (fun k h => h.set k (h.getD k 0 ^^^ (v.getD k 0 ^^^ v.getD (k + 8) 0)))
    (fun h => (⟨(.exit 8, mX), (((), (), ()), (h, c1, ()))⟩ : aS)) 8 h (fun _ h => h.length = 8) hl (fun k h hk hl => ⟨?_, by rw [List.length_set]; exact hl⟩) (fun h hl => ?_)).1
  · obtain ⟨n, hn⟩ := this
    exact ⟨n, _, hn, rfl⟩
  · have e1 : ((k : Int) + 8).toNat = k + 8 := by omega
    refine (OT.ax (decide_eq_true (by dsimp only; omega))).trans ((aj ?_).trans ?_)
    · simp only [e1, hl, hv, List.all_cons, List.all_nil, Bool.and_true, Bool.and_eq_true]
      exact ⟨aQ (by omega), decide_eq_true (by omega), aQ (by omega), decide_eq_true (by omega), aX (by omega), aQ (by omega), decide_eq_true (by omega), aQ (by omega), decide_eq_true (by omega), aX (by omega)⟩
    · simp only [OT.dq, e1, Nat.add_zero]
      rfl
  · exact OT.ay (decide_eq_false (by dsimp only; omega))
def Dk (h : List UInt64) (count : UInt64) (last : Bool) : List UInt64 :=
  let v := (h ++ bIV).set 12 ((h ++ bIV).getD 12 0 ^^^ count)
  cond last (v.set 14 (~~~v.getD 14 0)) v
def sT (h : List UInt64) (b : List UInt8) (count : UInt64) (last : Bool) : List UInt64 := NW h (pz (nQ b) (Dk h count last))
theorem zN (b : List UInt8) : (nQ b).length = 16 := by
  unfold nQ; rw [jM (fun k v => List.length_set)]; rfl
theorem wx (m v : List UInt64) : (pz m v).length = v.length := jM (fun k v => by rw [ui, k9]) v 12
theorem pN (h v : List UInt64) : (NW h v).length = h.length := jM (fun k v => List.length_set) h 8
theorem ux {b : List UInt8} {c0 c2 c3 : List UInt64} (hb : b.length = 128) : yH (((), (), (), (), (), 0, ()), (c0, b, c2, c3, [0, 0, 0, 0, 0, 0, 0, 0, 0, 0, 0, 0, 0, 0, 0, 0], ())) = true := decide_eq_true ⟨rfl, hb, rfl⟩
theorem uw {c0 c1 v m : List UInt64} (hv : v.length = 16) (hm : m.length = 16) : yG (((), (), (), (), (), 0, ()), (c0, c1, v, m, ek, ())) = true := decide_eq_true ⟨rfl, hv, hm, rfl⟩
theorem uv {c0 c1 v : List UInt64} (h0 : c0.length = 8) (hv : v.length = 16) : yF (((), (), (), 0, ()), (c0, c1, v, ())) = true := decide_eq_true ⟨rfl, h0, hv⟩
def yE (x : B5) : Bool := decide (x.1.1.length = 8 ∧ x.1.2.1.length = 128)
def WJ (x : B5) : OT ib.Y := .ok ⟨vC, ((sT x.1.1 x.1.2.1 x.1.2.2.1 x.1.2.2.2.1, ()), ())⟩
theorem Z7 : ab Try.prog 123 (ib.aE yE WJ) := Rn yH mW jD ki jC mU yG mV yF mT aac aaa Z9 aab Z8 _ _ fun x oy hp ho => by
  rw [← ho]
  obtain ⟨⟨h, b, count, last, ⟨⟩⟩, ⟨⟩⟩ := x
  simp only [yE, decide_eq_true_eq] at hp
  obtain ⟨hh, hb⟩ := hp
  have t1 : tab h 8 0 = h := tV hh
  have t2 : tab b 128 0 = b := tV hb
  have t3 : tab ek 10 [] = ek := tV rfl
  have v1 : [] ++ (List.take 8 h ++ List.drop (0 + min h.length 8) [(0 : UInt64), 0, 0, 0, 0, 0, 0, 0, 0, 0, 0, 0, 0, 0, 0, 0]) = h ++ List.replicate 8 0 := by
    rw [hh, List.nil_append, List.take_of_length_le (by omega)]; rfl
  have v2 : List.take 8 (h ++ List.replicate 8 (0 : UInt64)) ++ (bIV ++ List.drop 16 (h ++ List.replicate 8 (0 : UInt64))) = h ++ bIV := by
    rw [List.take_append_of_le_length (by omega), List.take_of_length_le (by omega), List.drop_eq_nil_of_le (by simp; omega), List.append_nil]
  have hv : ∀ c l, (Dk h c l).length = 16 := fun c l => by
    unfold Dk
    cases l <;> simp [hh] <;> rfl
  have hm : (nQ b).length = 16 := zN b
  have hr : ∀ c l, (pz (nQ b) (Dk h c l)).length = 16 := fun c l => by rw [wx]; exact hv c l
  have hM : ∀ c l, (sT h b c l).length = 8 := fun c l => by unfold sT; rw [pN]; exact hh
  have e8 : [(7640891576956012808 : UInt64), 13503953896175478587, 4354685564936845355, 11912009170470909681, 5840696475078001361, 11170449401992604703, 2270897969802886507, 6620516959819538809] = bIV := rfl
  have key : ∀ M : List UInt64, M.length = 8 → tab (lay [(0 : UInt64), 0, 0, 0, 0, 0, 0, 0] M 8 0) 8 0 = M := fun M hM => by rw [Gh (n := 8) rfl hM, tV hM]
  have l1 : List.set (h ++ bIV) 12 ((h ++ bIV).getD 12 0 ^^^ count) = Dk h count false := rfl
  have l2 : List.set (Dk h count false) 14 (~~~(Dk h count false).getD 14 0) = Dk h count true := rfl
  have l3 : ∀ c l, NW h (pz (nQ b) (Dk h c l)) = sT h b c l := fun _ _ => rfl
  cases last
  · refine (OT.ay rfl).trans ((aj ?_).trans ?_)
    · simp only [t1, t2, t3, v1, List.all_cons, List.all_nil, Bool.and_true, Bool.and_eq_true]
      rw [e8]
      simp only [v2, mW, mV, mT, l1, l3, jj, hM]
      exact ⟨ux hb, uw (hv _ _) hm, uv hh (hr _ _), rfl, rfl, rfl⟩
    · simp only [t1, t2, t3, v1]
      rw [e8]
      simp only [v2, mW, mV, mT, l1, l3]
      rw [key _ (hM _ _)]
      rfl
  · refine (OT.ax rfl).trans ((aj ?_).trans ?_)
    · simp only [t1, t2, t3, v1, List.all_cons, List.all_nil, Bool.and_true, Bool.and_eq_true]
      rw [e8]
      simp only [v2, mW, mV, mT, l1, l2, l3, jj, hM]
      exact ⟨ux hb, uw (hv _ _) hm, uv hh (hr _ _), rfl, rfl, rfl⟩
    · simp only [t1, t2, t3, v1]
      rw [e8]
      simp only [v2, mW, mV, mT, l1, l2, l3]
      rw [key _ (hM _ _)]
      rfl
def td : bO := (ib.aE yE WJ)
theorem Lq : ab Try.prog 123 td := Z7
theorem Lp : aD td := aA
def zJ : Env := av 123 td Aj
theorem tO : aN Try.prog zJ := ah Lq iK
theorem uZ : ar zJ := ac Lp Co
theorem LV : aY Try.prog te zJ := aG follows ao tO uZ
def e7 : ak := ⟨[.val false (.list .u8)], [], true, 0, false⟩
abbrev Ls : Type := ((List (UInt8)) × Unit) × (Unit)
def lK : aq := ⟨[.own 0], [(0, .row .u8)], false⟩
def B6 : SV → Option aq := fun _ => some lK
def Eo (a0 : List (UInt8)) : OT e7.Y :=
  (gd [decide (((0 : Nat) + List.length a0) * (1 : Nat) ≤ (140737488355328 : Nat))] (.ok ⟨lK, (((), ()), ([] ++ a0, ()))⟩))
def WL : OT e7.Y := .ok ⟨lK, (((), ()), ([], ()))⟩
theorem aai (x : Ls) (Q : e7.Y → Prop) : wpf te zJ az 1000 Try.f38 (e7.inp.inj x).tm (e7.inp.inj x).hp (fnK e7 B6 Q) (fun _ _ => False) =
    Bool.rec (motive := fun _ => Prop) ((Eo x.1.1).wpR Q) (WL.wpR Q ∧ (Eo x.1.1).wpR Q) (List.isEmpty x.1.1) := by kernel_rfl
def ft (x : Ls) : Bool := decide (x.1.1.length ≤ 140737488355328)
def O4 (x : Ls) : OT e7.Y := .ok ⟨lK, (((), ()), (x.1.1, ()))⟩
theorem WK : ab Try.prog 38 (e7.aE ft O4) := by
  refine ZA ao tO LV (f := 38) (fn := Try.f38) (c := al Try.f38) (by kernel_rfl) (by kernel_rfl) (by kernel_rfl) (S := e7) (k := 0) (by kernel_rfl) (Λ := az) (fun R hR => ae) (n := 1000) fun x oy hp hr => ⟨fnK e7 B6 (fun z => z = oy), fun _ _ => False, ?_, fun v hp hq => ?_, fun _ _ hq => hq.elim⟩
  · refine (aai x _).mpr ?_
    cases hr
    have hp' : x.1.1.length ≤ 140737488355328 := of_decide_eq_true hp
    have h1 : (Eo x.1.1).wpR (fun z => z = ⟨lK, (((), ()), (x.1.1, ()))⟩) := by
      rw [OT.EU]
      refine OT.ky (aj ?_) rfl
      simp only [List.all_cons, List.all_nil, Bool.and_true]
      exact decide_eq_true (by omega)
    cases hb : List.isEmpty x.1.1
    · exact h1
    · refine ⟨?_, h1⟩
      rw [List.isEmpty_iff.1 hb]
      rfl
  · unfold fnK at hq
    split at hq
    · rename_i o ho
      split at hq
      · rename_i y hy
        subst hq
        exact ⟨by cases ho; rfl, hy⟩
      · exact hq.elim
    · exact hq.elim
def oD : bO := (e7.aE ft O4)
theorem H6 : ab Try.prog 38 oD := WK
theorem H5 : aD oD := aA
def rB : Env := av 38 oD zJ
theorem oZ : aN Try.prog rB := ah H6 tO
theorem rA : ar rB := ac H5 uZ
theorem IK : aY Try.prog te rB := aG follows ao oZ rA
def lG : ak := ⟨[.val false .str, .val false .int], [], true, 0, false⟩
abbrev Ri : Type := ((List UInt8) × (Int) × Unit) × (Unit)
def yw : aq := ⟨[.kr, .val false .int], [], false⟩
def Lc : aq := ⟨[.ptr 0 0 0, .val false .int], [(0, .cells [.val false .int, .val false .u64, .val false .u64, .val false .u64, .val false .u64, .val false .u64, .val false .u64, .val false .u64, .val false .u64, .own 1, .val false .u64]), (1, .row .u8)], false⟩
def HJ : List aq := [yw, Lc]
def yy (a0 : List UInt8) (a1 : Int) : OT lG.Y :=
  let z0 : List UInt8 := List.take 16 a0 ++ List.drop (List.length a0) [(0 : UInt8), (0 : UInt8), (0 : UInt8), (0 : UInt8), (0 : UInt8), (0 : UInt8), (0 : UInt8), (0 : UInt8), (0 : UInt8), (0 : UInt8), (0 : UInt8), (0 : UInt8), (0 : UInt8), (0 : UInt8), (0 : UInt8), (0 : UInt8)]
  let z1 : Bool := decide (16 ≤ List.length z0) && true
  let z2 : List UInt8 := List.take 8 (List.drop 0 z0)
  let z3 : List UInt8 := List.take 8 (List.drop 8 z0)
  (.br (decide ((16 : Int) < (↑(List.length a0) : Int)))
  (.ok ⟨yw, (((), ((30 : Int), ())), ())⟩)
  (.br (decide (a1 < (1 : Int)))
    (.ok ⟨yw, (((), ((30 : Int), ())), ())⟩)
    (.br (decide ((64 : Int) < a1))
      (.ok ⟨yw, (((), ((30 : Int), ())), ())⟩)
      (gd [z1, gZ ((z2, ()), ()), z1, gZ ((z3, ()), ())] (.ok ⟨Lc, (((), ((0 : Int), ())), ((a1, ((7640891576956012808 : UInt64) ^^^ (16842752 : UInt64) + i2u a1, ((13503953896175478587 : UInt64), ((4354685564936845355 : UInt64), ((11912009170470909681 : UInt64), ((5840696475078001361 : UInt64), ((11170449401992604703 : UInt64), ((2270897969802886507 : UInt64) ^^^ rH z2 (List.length z2), ((6620516959819538809 : UInt64) ^^^ rH z3 (List.length z3), ((), ((0 : UInt64), ()))))))))))), ([], ())))⟩)))))
theorem afn (x : Ri) (Q : lG.Y → Prop) : wpf te rB az 1000 Try.f56 (lG.inp.inj x).tm (lG.inp.inj x).hp (aaS lG HJ Q) (fun _ _ => False) = (yy (x.1.1) (x.1.2.1)).wpR Q := by kernel_rfl
theorem Wv (pre : Ri → Bool) (F : Ri → OT lG.Y) (hF : ∀ (x : Ri) oy, pre x = true → (F x).run = some oy → (yy (x.1.1) (x.1.2.1)).run = some oy) : ab Try.prog 56 (lG.aE pre F) :=
  DI ao oZ IK (f := 56) (fn := Try.f56) (c := al Try.f56) (by kernel_rfl) (by kernel_rfl) (by kernel_rfl) (S := lG) (k := 0) (by kernel_rfl) (fun R hR => ae) (n := 1000) (outs := HJ) (by kernel_rfl) (pre := pre) (F := F) (T := fun x => yy (x.1.1) (x.1.2.1)) (fun x Q => afn x Q) hF
def JX (p : List UInt8) : List UInt8 := p.take 16 ++ (List.replicate 16 (0 : UInt8)).drop p.length
def qE (p : List UInt8) (n : Int) : Bool := decide (16 < (p.length : Int)) || decide (n < 1) || decide (64 < n)
theorem F4 {p : List UInt8} (h : p.length ≤ 16) : (JX p).length = 16 := by
  simp only [JX, List.length_append, List.length_take, List.length_drop, List.length_replicate]
  omega
abbrev IM : Type := Int × UInt64 × UInt64 × UInt64 × UInt64 × UInt64 × UInt64 × UInt64 × UInt64 × Unit × UInt64 × Unit
def afC (n : Int) (h : List UInt64) (c : UInt64) : IM := (n, h.getD 0 0, h.getD 1 0, h.getD 2 0, h.getD 3 0, h.getD 4 0, h.getD 5 0, h.getD 6 0, h.getD 7 0, (), c, ())
def agc (p : List UInt8) (n : Int) : List UInt64 := [0x6a09e667f3bcc908 ^^^ (16842752 + i2u n), 0xbb67ae8584caa73b, 0x3c6ef372fe94f82b, 0xa54ff53a5f1d36f1, 0x510e527fade682d1, 0x9b05688c2b3e6c1f,
  0x1f83d9abfb41bd6b ^^^ rH ((JX p).take 8) 8, 0x5be0cd19137e2179 ^^^ rH (((JX p).drop 8).take 8) 8]
def OU (_ : Ri) : Bool := true
def BW (x : Ri) : OT lG.Y := .br (qE x.1.1 x.1.2.1) (.ok ⟨yw, (((), ((30 : Int), ())), ())⟩)
  (.ok ⟨Lc, (((), ((0 : Int), ())), (afC x.1.2.1 (agc x.1.1 x.1.2.1) 0, ([], ())))⟩)
theorem ad2 : ab Try.prog 56 (lG.aE OU BW) := Wv _ _ fun x oy _ ho => by
  rw [← ho]
  obtain ⟨⟨p, n, ⟨⟩⟩, ⟨⟩⟩ := x
  clear ho
  by_cases h1 : 16 < (p.length : Int)
  · have e1 : decide (16 < (p.length : Int)) = true := decide_eq_true h1
    have eb : qE p n = true := by simp only [qE, e1, Bool.true_or]
    simp only [BW, yy, e1, eb]
    rfl
  · have e1 : decide (16 < (p.length : Int)) = false := decide_eq_false h1
    by_cases h2 : n < 1
    · have e2 : decide (n < 1) = true := decide_eq_true h2
      have eb : qE p n = true := by simp only [qE, e1, e2, Bool.true_or, Bool.false_or]
      simp only [BW, yy, e1, e2, eb]
      rfl
    · have e2 : decide (n < 1) = false := decide_eq_false h2
      by_cases h3 : 64 < n
      · have e3 : decide (64 < n) = true := decide_eq_true h3
        have eb : qE p n = true := by simp only [qE, e1, e2, e3, Bool.false_or]
        simp only [BW, yy, e1, e2, e3, eb]
        rfl
      · have e3 : decide (64 < n) = false := decide_eq_false h3
        have eb : qE p n = false := by simp only [qE, e1, e2, e3, Bool.false_or]
        have hl := F4 (p := p) (by omega)
        have hp : p.take 16 ++ List.drop p.length [(0 : UInt8), 0, 0, 0, 0, 0, 0, 0, 0, 0, 0, 0, 0, 0, 0, 0] = JX p := rfl
        have l1 : ((JX p).take 8).length = 8 := by simp only [List.length_take, hl]; omega
        have l2 : (((JX p).drop 8).take 8).length = 8 := by simp only [List.length_take, List.length_drop, hl]; omega
        simp only [BW, yy, e1, e2, e3, eb, hp, List.drop_zero, l1, l2]
        refine (aj ?_).trans rfl
        simp only [gZ, hl, l1, l2]
        decide
def yv : bO := (lG.aE OU BW)
theorem Rh : ab Try.prog 56 yv := ad2
theorem Rg : aD yv := aA
def Cn : Env := av 56 yv rB
theorem rq : aN Try.prog Cn := ah Rh oZ
theorem zG : ar Cn := ac Rg rA
theorem Cm : aY Try.prog te Cn := aG follows ao rq zG
def VW (w : Sh) : CSh := .cells [.val false .int, .val false .u64, .val false .u64, .val false .u64, .val false .u64, .val false .u64, .val false .u64, .val false .u64, .val false .u64, w, .val false .u64]
def eX : ak := ⟨[.ptr 0 0 0, .val false (.list .u8)], [(0, VW (.own 1)), (1, .row .u8)], true, 1, true⟩
def jy : Shape := ⟨61, [(0, .ptr 0 0 0)], [(0, VW (.val false (.list .u8))), (1, .gone)], 2, true⟩
def kc : Shape := jy
abbrev sX : Type := ((Unit) × (List (UInt8)) × Unit) × (((Int) × (UInt64) × (UInt64) × (UInt64) × (UInt64) × (UInt64) × (UInt64) × (UInt64) × (UInt64) × (Unit) × (UInt64) × Unit) × (List (UInt8)) × Unit)
abbrev bB : Type := ((Unit) × Unit) × (((Int) × (UInt64) × (UInt64) × (UInt64) × (UInt64) × (UInt64) × (UInt64) × (UInt64) × (UInt64) × (List (UInt8)) × (UInt64) × Unit) × (Unit) × Unit)
abbrev fE : Type := ((Unit) × Unit) × (((Int) × (UInt64) × (UInt64) × (UInt64) × (UInt64) × (UInt64) × (UInt64) × (UInt64) × (UInt64) × (List (UInt8)) × (UInt64) × Unit) × (Unit) × Unit)
def Hv : SE → Option Shape := nt [(0, kc)] none
def Wj (c0_0 : Int) (c0_1 : UInt64) (c0_2 : UInt64) (c0_3 : UInt64) (c0_4 : UInt64) (c0_5 : UInt64) (c0_6 : UInt64) (c0_7 : UInt64) (c0_8 : UInt64) (c0_9 : List (UInt8)) (c0_10 : UInt64) : OT (Sum bB aS) :=
  let z0 : Nat := List.length c0_9
  let z1 : Int := (↑z0 : Int)
  let z2 : List UInt8 := List.drop 0 (List.take 128 c0_9)
  let z3 : Nat := List.length z2
  let z4 : List UInt64 := sT [c0_1, c0_2, c0_3, c0_4, c0_5, c0_6, c0_7, c0_8] (tab z2 128 (0 : UInt8)) (c0_10 + (128 : UInt64)) false
  (.br (decide ((128 : Int) < z1))
  (gd [cV (0 : Int) (128 : Int) z0, decide (128 ≤ z3), decide (128 ≤ z3), cV (128 : Int) z1 z0] (.ok (.inl (((), ()), ((c0_0, (List.getD z4 0 0, (List.getD z4 1 0, (List.getD z4 2 0, (List.getD z4 3 0, (List.getD z4 4 0, (List.getD z4 5 0, (List.getD z4 6 0, (List.getD z4 7 0, (List.drop 128 c0_9, (c0_10 + (128 : UInt64), ()))))))))))), ((), ()))))))
  (.ok (.inr ⟨(.exit 0, kc), (((), ()), ((c0_0, (c0_1, (c0_2, (c0_3, (c0_4, (c0_5, (c0_6, (c0_7, (c0_8, (c0_9, (c0_10, ()))))))))))), ((), ())))⟩)))
def lD (s : bB) : OT (Sum bB aS) := Wj (s.2.1.1) (s.2.1.2.1) (s.2.1.2.2.1) (s.2.1.2.2.2.1) (s.2.1.2.2.2.2.1) (s.2.1.2.2.2.2.2.1) (s.2.1.2.2.2.2.2.2.1) (s.2.1.2.2.2.2.2.2.2.1) (s.2.1.2.2.2.2.2.2.2.2.1) (s.2.1.2.2.2.2.2.2.2.2.2.1) (s.2.1.2.2.2.2.2.2.2.2.2.2.1)
theorem Wg (s : bB) (Q : Sum bB aS → Prop) : wps te Cn az 1000 (bM (al Try.f124) 0) (jy.inj s) (dm jy Hv (Q : Sum jy.T aS → Prop)) = (lD s).wpR Q := by kernel_rfl
def qj (g0_0 : bB → fE) (s : bB) : OT aS := (.ok ⟨(.exit 0, kc), g0_0 s⟩)
def ym : aq := ⟨[], [(0, .cells [.val false .int, .val false .u64, .val false .u64, .val false .u64, .val false .u64, .val false .u64, .val false .u64, .val false .u64, .val false .u64, .own 1, .val false .u64]), (1, .row .u8)], false⟩
def BN : SV → Option aq := fun _ => some ym
def D5 (ok0 : bB → Bool) (g0_0 : bB → fE) (a1 : List (UInt8)) (c0_0 : Int) (c0_1 : UInt64) (c0_2 : UInt64) (c0_3 : UInt64) (c0_4 : UInt64) (c0_5 : UInt64) (c0_6 : UInt64) (c0_7 : UInt64) (c0_8 : UInt64) (c0_10 : UInt64) (c1 : List (UInt8)) : OT eX.Y :=
  let z0 : (PUnit × PUnit) × (Int × UInt64 × UInt64 × UInt64 × UInt64 × UInt64 × UInt64 × UInt64 × UInt64 × List UInt8 × UInt64 × PUnit) × PUnit × PUnit := (((), ()), (c0_0, c0_1, c0_2, c0_3, c0_4, c0_5, c0_6, c0_7, c0_8, c1 ++ a1, c0_10, ()), (), ())
  let z1 := (g0_0 z0).snd.fst
  let z2 := z1.snd
  let z3 := z2.snd
  let z4 := z3.snd
  let z5 := z4.snd
  let z6 := z5.snd
  let z7 := z6.snd
  let z8 := z7.snd
  let z9 := z8.snd
  let z10 := z9.snd
  let z11 := z10.fst
  (gd [decide ((List.length c1 + List.length a1) * 1 ≤ 140737488355328), ok0 z0, ft ((z11, ()), ())] (.ok ⟨ym, ((), ((z1.fst, (z2.fst, (z3.fst, (z4.fst, (z5.fst, (z6.fst, (z7.fst, (z8.fst, (z9.fst, ((), (z10.snd.fst, ()))))))))))), (z11, ())))⟩))
theorem ZR (ok0 : bB → Bool) (g0_0 : bB → fE) (x : sX) (Q : eX.Y → Prop) : wpf te Cn (bK 0 (dZ jy 0 ok0 (qj g0_0)) az) 1000 Try.f124 (eX.inp.inj x).tm (eX.inp.inj x).hp (fnK eX BN Q) (fun _ _ => False) = (D5 ok0 g0_0 (x.1.2.1) (x.2.1.1) (x.2.1.2.1) (x.2.1.2.2.1) (x.2.1.2.2.2.1) (x.2.1.2.2.2.2.1) (x.2.1.2.2.2.2.2.1) (x.2.1.2.2.2.2.2.2.1) (x.2.1.2.2.2.2.2.2.2.1) (x.2.1.2.2.2.2.2.2.2.2.1) (x.2.1.2.2.2.2.2.2.2.2.2.2.1) (x.2.2.1)).wpR Q := by kernel_rfl
theorem K1 (ok0 : bB → Bool) (g0_0 : bB → fE) (h0 : ∀ s : bB, ok0 s = true → ∃ m e, aB (lD) m s = some e ∧ (qj g0_0 s).run = some e) (pre : sX → Bool) (F : sX → OT eX.Y) (hF : ∀ (x : sX) oy, pre x = true → (F x).run = some oy → (D5 ok0 g0_0 (x.1.2.1) (x.2.1.1) (x.2.1.2.1) (x.2.1.2.2.1) (x.2.1.2.2.2.1) (x.2.1.2.2.2.2.1) (x.2.1.2.2.2.2.2.1) (x.2.1.2.2.2.2.2.2.1) (x.2.1.2.2.2.2.2.2.2.1) (x.2.1.2.2.2.2.2.2.2.2.1) (x.2.1.2.2.2.2.2.2.2.2.2.2.1) (x.2.2.1)).run = some oy) : ab Try.prog 124 (eX.aE pre F) :=
  aC ao rq Cm (f := 124) (fn := Try.f124) (c := al Try.f124) (by kernel_rfl) (by kernel_rfl) (by kernel_rfl) (S := eX) (k := 2) (by kernel_rfl) (fun R hR => (aL (c := (al Try.f124)) (by kernel_rfl) (id := 0) (by kernel_rfl) (bJ ao rq Cm (sh := jy) hR (xs := Hv) (aI (by kernel_rfl) (by kernel_rfl) hR) bk ae (n := 1000) (T := lD) (fun s Q => Wg s Q) (ok := ok0) (f := qj g0_0) h0) ae)) (n := 1000) (sel := BN) (fun v o h => by cases h; rfl) (pre := pre) (F := F) (T := fun x => D5 ok0 g0_0 (x.1.2.1) (x.2.1.1) (x.2.1.2.1) (x.2.1.2.2.1) (x.2.1.2.2.2.1) (x.2.1.2.2.2.2.1) (x.2.1.2.2.2.2.2.1) (x.2.1.2.2.2.2.2.2.1) (x.2.1.2.2.2.2.2.2.2.1) (x.2.1.2.2.2.2.2.2.2.2.1) (x.2.1.2.2.2.2.2.2.2.2.2.2.1) (x.2.2.1)) (fun x Q => ZR ok0 g0_0 x Q) hF
def adN (s : List UInt64 × UInt64 × List UInt8) : List UInt64 × UInt64 × List UInt8 := (sT s.1 (s.2.2.take 128) (s.2.1 + 128) false, s.2.1 + 128, s.2.2.drop 128)
def Hg (s : List UInt64 × UInt64 × List UInt8) : List UInt64 × UInt64 × List UInt8 := upto (fun _ s => adN s) s ((s.2.2.length - 1) / 128)
abbrev aft : Type := Int × UInt64 × UInt64 × UInt64 × UInt64 × UInt64 × UInt64 × UInt64 × UInt64 × List UInt8 × UInt64 × Unit
def adP (n : Int) (s : List UInt64 × UInt64 × List UInt8) : aft := (n, s.1.getD 0 0, s.1.getD 1 0, s.1.getD 2 0, s.1.getD 3 0, s.1.getD 4 0, s.1.getD 5 0, s.1.getD 6 0, s.1.getD 7 0, s.2.2, s.2.1, ())
def aeU (x : aft) : List UInt64 × UInt64 × List UInt8 := ([x.2.1, x.2.2.1, x.2.2.2.1, x.2.2.2.2.1, x.2.2.2.2.2.1, x.2.2.2.2.2.2.1, x.2.2.2.2.2.2.2.1, x.2.2.2.2.2.2.2.2.1], x.2.2.2.2.2.2.2.2.2.2.1, x.2.2.2.2.2.2.2.2.2.1)
theorem um {h : List UInt64} {b : List UInt8} {c : UInt64} {l : Bool} (hh : h.length = 8) : (sT h b c l).length = 8 := by unfold sT; rw [pN]; exact hh
def BO (_ : bB) : Bool := true
def Hy (s : bB) : fE := (((), ()), (adP s.2.1.1 (Hg (aeU s.2.1)), (), ()))
theorem Wi : ∀ s : bB, BO s = true → ∃ m e, aB lD m s = some e ∧ (qj Hy s).run = some e := by
  rintro ⟨⟨⟨⟩, ⟨⟩⟩, ⟨⟨n, h0, h1, h2, h3, h4, h5, h6, h7, w, c, ⟨⟩⟩, ⟨⟩, ⟨⟩⟩⟩ _
  have := (bt (T := lD) (fun _ s => ((((), ()), (adP n s, (), ())) : bB)) (fun _ s => adN s) (fun s => (⟨(.exit 0, kc), (((), ()), (adP n s, (), ()))⟩ : aS)) ((w.length - 1) / 128) ([h0, h1, h2, h3, h4, h5, h6, h7], c, w)
    (fun k s => s.1.length = 8 ∧ s.2.2.length + 128 * k = w.length) ⟨rfl, by simp⟩ (fun k s hk hs => ⟨?_, ?_⟩) (fun s hs => ?_)).1
  · obtain ⟨m, hm⟩ := this
    exact ⟨m, _, hm, rfl⟩
  · obtain ⟨h, c, v⟩ := s
    obtain ⟨a1, a2⟩ := hs
    dsimp only at a1 a2
    have hv : 128 < v.length := by omega
    have t1 : [h.getD 0 0, h.getD 1 0, h.getD 2 0, h.getD 3 0, h.getD 4 0, h.getD 5 0, h.getD 6 0, h.getD 7 0] = h := (rfl : _ = tab h 8 0).trans (tV a1)
    have t2 : tab (v.take 128) 128 0 = v.take 128 := tV (by simp; omega)
    have t3 : (v.take 128).length = 128 := by simp; omega
    refine (OT.ax (decide_eq_true (by dsimp only [adP]; omega))).trans ((aj ?_).trans ?_)
    · simp only [adP, List.drop_zero, t3, List.all_cons, List.all_nil, Bool.and_true, Bool.and_eq_true]
      exact ⟨fp (by omega), rfl, rfl, fp (by omega)⟩
    · simp only [OT.dq, adP, List.drop_zero, t1, t2]
      rfl
  · obtain ⟨h, c, v⟩ := s
    obtain ⟨a1, a2⟩ := hs
    dsimp only at a1 a2
    refine ⟨um a1, ?_⟩
    simp only [adN, List.length_drop]
    omega
  · obtain ⟨h, c, v⟩ := s
    obtain ⟨a1, a2⟩ := hs
    dsimp only at a1 a2
    exact OT.ay (decide_eq_false (by dsimp only [adP]; omega))
def wV (x : IM) (w : List UInt8) : List UInt64 × UInt64 × List UInt8 := ([x.2.1, x.2.2.1, x.2.2.2.1, x.2.2.2.2.1, x.2.2.2.2.2.1, x.2.2.2.2.2.2.1, x.2.2.2.2.2.2.2.1, x.2.2.2.2.2.2.2.2.1], x.2.2.2.2.2.2.2.2.2.2.1, w)
def vO (s : List UInt64 × UInt64 × List UInt8) (b : List UInt8) : List UInt64 × UInt64 × List UInt8 := Hg (s.1, s.2.1, s.2.2 ++ b)
theorem OA (s : List UInt64 × UInt64 × List UInt8) : ∀ k, (upto (fun _ s => adN s) s k).2.2.length ≤ s.2.2.length
  | 0 => Nat.le_refl _
  | k + 1 => by
    have := OA s k
    show (List.drop 128 (upto (fun _ s => adN s) s k).2.2).length ≤ _
    rw [List.length_drop]
    omega
theorem VU (s : List UInt64 × UInt64 × List UInt8) : ∀ k, (upto (fun _ s => adN s) s k).2.2.length = s.2.2.length - 128 * k
  | 0 => rfl
  | k + 1 => by
    have := VU s k
    show (List.drop 128 (upto (fun _ s => adN s) s k).2.2).length = _
    rw [List.length_drop, this]
    omega
theorem QU (s : List UInt64 × UInt64 × List UInt8) : (Hg s).2.2.length ≤ 128 := by
  unfold Hg
  rw [VU]
  omega
def sW (x : sX) : Bool := decide (x.2.2.1.length + x.1.2.1.length ≤ 140737488355328)
def OI (x : sX) : OT eX.Y := .ok ⟨ym, ((), (afC x.2.1.1 (vO (wV x.2.1 x.2.2.1) x.1.2.1).1 (vO (wV x.2.1 x.2.2.1) x.1.2.1).2.1, ((vO (wV x.2.1 x.2.2.1) x.1.2.1).2.2, ())))⟩
theorem Wh : ab Try.prog 124 (eX.aE sW OI) := K1 BO Hy Wi _ _ fun x oy hp ho => by
  rw [← ho]
  clear ho
  obtain ⟨⟨⟨⟩, b, ⟨⟩⟩, ⟨⟨n, h0, h1, h2, h3, h4, h5, h6, h7, ⟨⟩, c, ⟨⟩⟩, w, ⟨⟩⟩⟩ := x
  have hp' := of_decide_eq_true hp
  dsimp only at hp'
  refine (aj ?_).trans rfl
  simp only [List.all_cons, List.all_nil, Bool.and_true, Bool.and_eq_true]
  refine ⟨decide_eq_true (by omega), rfl, decide_eq_true ?_⟩
  have := OA ([h0, h1, h2, h3, h4, h5, h6, h7], c, w ++ b) (((w ++ b).length - 1) / 128)
  show (Hg ([h0, h1, h2, h3, h4, h5, h6, h7], c, w ++ b)).2.2.length ≤ _
  refine Nat.le_trans this ?_
  show (w ++ b).length ≤ _
  rw [List.length_append]
  exact hp'
def oq : bO := (eX.aE sW OI)
theorem Hx : ab Try.prog 124 oq := Wh
theorem Hw : aD oq := aA
def nq : Env := av 124 oq Cn
theorem ko : aN Try.prog nq := ah Hx rq
theorem ri : ar nq := ac Hw zG
theorem uV : aY Try.prog te nq := aG follows ao ko ri
def lE : ak := ⟨[.ptr 0 0 0], [(0, VW (.own 1)), (1, .row .u8)], false, 2, true⟩
abbrev Rb : Type := ((Unit) × Unit) × (((Int) × (UInt64) × (UInt64) × (UInt64) × (UInt64) × (UInt64) × (UInt64) × (UInt64) × (UInt64) × (Unit) × (UInt64) × Unit) × (List (UInt8)) × Unit)
def yp : Shape := ⟨51, [(5, .ptr 2 0 0), (6, .own 3), (33, .val false .int), (34, .val false .int)], [(0, .cells [.val false .int, .val false .u64, .val false .u64, .val false .u64, .val false .u64, .val false .u64, .val false .u64, .val false .u64, .val false .u64, .own 1, .val false .u64]), (1, .row .u8), (2, .row .u64), (3, .row .u8)], 2, true⟩
abbrev cw : Type := ((Unit) × (Unit) × (Int) × (Int) × Unit) × (((Int) × (UInt64) × (UInt64) × (UInt64) × (UInt64) × (UInt64) × (UInt64) × (UInt64) × (UInt64) × (Unit) × (UInt64) × Unit) × (List (UInt8)) × (List (UInt64)) × (List (UInt8)) × Unit)
def ql : Shape := ⟨51, [(6, .own 2)], [(0, .cells [.val false .int, .val false .u64, .val false .u64, .val false .u64, .val false .u64, .val false .u64, .val false .u64, .val false .u64, .val false .u64, .own 1, .val false .u64]), (1, .row .u8), (2, .row .u8)], 2, true⟩
abbrev jz : Type := ((Unit) × Unit) × (((Int) × (UInt64) × (UInt64) × (UInt64) × (UInt64) × (UInt64) × (UInt64) × (UInt64) × (UInt64) × (Unit) × (UInt64) × Unit) × (List (UInt8)) × (List (UInt8)) × Unit)
def Wl : SE → Option Shape := nt [(0, ql)] none
def ad0 (a33 : Int) (a34 : Int) (c0_0 : Int) (c0_1 : UInt64) (c0_2 : UInt64) (c0_3 : UInt64) (c0_4 : UInt64) (c0_5 : UInt64) (c0_6 : UInt64) (c0_7 : UInt64) (c0_8 : UInt64) (c0_10 : UInt64) (c1 : List (UInt8)) (c2 : List (UInt64)) (c3 : List (UInt8)) : OT (Sum cw aS) :=
  let z0 : Int := Int.tdiv a34 (8 : Int)
  let z1 : Int := (8 : Int) * Int.tmod a34 (8 : Int)
  let z2 : Nat := List.length c3
  let z3 : Nat := Int.toNat a34
  (.br (decide (a34 < a33))
  (gd [true && inR z0, inB z0 8, decide (Int.toNat z0 + 0 < List.length c2), inR z1, decide ((0 : Int) ≤ z1), inB a34 z2, decide (z3 < z2), inR (a34 + (1 : Int))] (.ok (.inl (((), ((), (a33, (a34 + (1 : Int), ())))), ((c0_0, (c0_1, (c0_2, (c0_3, (c0_4, (c0_5, (c0_6, (c0_7, (c0_8, ((), (c0_10, ()))))))))))), (c1, (c2, (List.set c3 z3 (UInt64.toUInt8 (aP (List.getD c2 (Int.toNat z0 + 0) (0 : UInt64)) z1)), ()))))))))
  (.ok (.inr ⟨(.exit 0, ql), (((), ()), ((c0_0, (c0_1, (c0_2, (c0_3, (c0_4, (c0_5, (c0_6, (c0_7, (c0_8, ((), (c0_10, ()))))))))))), (c1, (c3, ()))))⟩)))
def yq (s : cw) : OT (Sum cw aS) := ad0 (s.1.2.2.1) (s.1.2.2.2.1) (s.2.1.1) (s.2.1.2.1) (s.2.1.2.2.1) (s.2.1.2.2.2.1) (s.2.1.2.2.2.2.1) (s.2.1.2.2.2.2.2.1) (s.2.1.2.2.2.2.2.2.1) (s.2.1.2.2.2.2.2.2.2.1) (s.2.1.2.2.2.2.2.2.2.2.1) (s.2.1.2.2.2.2.2.2.2.2.2.2.1) (s.2.2.1) (s.2.2.2.1) (s.2.2.2.2.1)
theorem adX (s : cw) (Q : Sum cw aS → Prop) : wps te nq az 1000 (bM (al Try.f119) 0) (yp.inj s) (dm yp Wl (Q : Sum yp.T aS → Prop)) = (yq s).wpR Q := by kernel_rfl
def Ea (g0_0 : cw → jz) (s : cw) : OT aS := (.ok ⟨(.exit 0, ql), g0_0 s⟩)
def K8 : aq := ⟨[.own 2], [(0, .cells [.val false .int, .val false .u64, .val false .u64, .val false .u64, .val false .u64, .val false .u64, .val false .u64, .val false .u64, .val false .u64, .own 1, .val false .u64]), (1, .row .u8), (2, .row .u8)], false⟩
def OL : SV → Option aq := fun _ => some K8
def Wn (ok0 : cw → Bool) (g0_0 : cw → jz) (c0_0 : Int) (c0_1 : UInt64) (c0_2 : UInt64) (c0_3 : UInt64) (c0_4 : UInt64) (c0_5 : UInt64) (c0_6 : UInt64) (c0_7 : UInt64) (c0_8 : UInt64) (c0_10 : UInt64) (c1 : List (UInt8)) : OT lE.Y :=
  let z0 : Nat := List.length c1
  let z1 : List UInt8 := List.take 128 c1 ++ List.drop z0 (List.replicate 128 (0 : UInt8))
  let z2 : List UInt8 := List.replicate (Int.toNat c0_0) (0 : UInt8)
  let z3 : List UInt64 := sT [c0_1, c0_2, c0_3, c0_4, c0_5, c0_6, c0_7, c0_8] (tab z1 128 (0 : UInt8)) (c0_10 + i2u (↑(min z0 128) : Int)) true
  let z4 : (PUnit × PUnit × Int × Int × PUnit) × (Int × UInt64 × UInt64 × UInt64 × UInt64 × UInt64 × UInt64 × UInt64 × UInt64 × PUnit × UInt64 × PUnit) × List UInt8 × List UInt64 × List UInt8 × PUnit := (((), (), (↑(List.length z2) : Int), (0 : Int), ()), (c0_0, c0_1, c0_2, c0_3, c0_4, c0_5, c0_6, c0_7, c0_8, (), c0_10, ()), c1, [List.getD z3 0 0, List.getD z3 1 0, List.getD z3 2 0, List.getD z3 3 0, List.getD z3 4 0, List.getD z3 5 0, List.getD z3 6 0, List.getD z3 7 0], z2, ())
  let z5 := (g0_0 z4).snd
  let z6 := z5.fst
  let z7 := z6.snd
  let z8 := z7.snd
  let z9 := z8.snd
  let z10 := z9.snd
  let z11 := z10.snd
  let z12 := z11.snd
  let z13 := z12.snd
  let z14 := z13.snd
  let z15 := z5.snd
  (gd [decide (128 ≤ List.length z1), decide ((0 : Int) ≤ c0_0) && decide (c0_0 ≤ c0_0) && decide (c0_0 * (1 : Int) ≤ (140737488355328 : Int)) && decide (c0_0 ≤ (140737488355328 : Int)), ok0 z4] (.ok ⟨K8, (((), ()), ((z6.fst, (z7.fst, (z8.fst, (z9.fst, (z10.fst, (z11.fst, (z12.fst, (z13.fst, (z14.fst, ((), (z14.snd.snd.fst, ()))))))))))), (z15.fst, (z15.snd.fst, ()))))⟩))
theorem afl (ok0 : cw → Bool) (g0_0 : cw → jz) (x : Rb) (Q : lE.Y → Prop) : wpf te nq (bK 0 (dZ yp 0 ok0 (Ea g0_0)) az) 1000 Try.f119 (lE.inp.inj x).tm (lE.inp.inj x).hp (fnK lE OL Q) (fun _ _ => False) = (Wn ok0 g0_0 (x.2.1.1) (x.2.1.2.1) (x.2.1.2.2.1) (x.2.1.2.2.2.1) (x.2.1.2.2.2.2.1) (x.2.1.2.2.2.2.2.1) (x.2.1.2.2.2.2.2.2.1) (x.2.1.2.2.2.2.2.2.2.1) (x.2.1.2.2.2.2.2.2.2.2.1) (x.2.1.2.2.2.2.2.2.2.2.2.2.1) (x.2.2.1)).wpR Q := by kernel_rfl
theorem Wm (ok0 : cw → Bool) (g0_0 : cw → jz) (h0 : ∀ s : cw, ok0 s = true → ∃ m e, aB (yq) m s = some e ∧ (Ea g0_0 s).run = some e) (pre : Rb → Bool) (F : Rb → OT lE.Y) (hF : ∀ (x : Rb) oy, pre x = true → (F x).run = some oy → (Wn ok0 g0_0 (x.2.1.1) (x.2.1.2.1) (x.2.1.2.2.1) (x.2.1.2.2.2.1) (x.2.1.2.2.2.2.1) (x.2.1.2.2.2.2.2.1) (x.2.1.2.2.2.2.2.2.1) (x.2.1.2.2.2.2.2.2.2.1) (x.2.1.2.2.2.2.2.2.2.2.1) (x.2.1.2.2.2.2.2.2.2.2.2.2.1) (x.2.2.1)).run = some oy) : ab Try.prog 119 (lE.aE pre F) :=
  aC ao ko uV (f := 119) (fn := Try.f119) (c := al Try.f119) (by kernel_rfl) (by kernel_rfl) (by kernel_rfl) (S := lE) (k := 2) (by kernel_rfl) (fun R hR => (aL (c := (al Try.f119)) (by kernel_rfl) (id := 0) (by kernel_rfl) (bJ ao ko uV (sh := yp) hR (xs := Wl) (aI (by kernel_rfl) (by kernel_rfl) hR) bk ae (n := 1000) (T := yq) (fun s Q => adX s Q) (ok := ok0) (f := Ea g0_0) h0) ae)) (n := 1000) (sel := OL) (fun v o h => by cases h; rfl) (pre := pre) (F := F) (T := fun x => Wn ok0 g0_0 (x.2.1.1) (x.2.1.2.1) (x.2.1.2.2.1) (x.2.1.2.2.2.1) (x.2.1.2.2.2.2.1) (x.2.1.2.2.2.2.2.1) (x.2.1.2.2.2.2.2.2.1) (x.2.1.2.2.2.2.2.2.2.1) (x.2.1.2.2.2.2.2.2.2.2.1) (x.2.1.2.2.2.2.2.2.2.2.2.2.1) (x.2.2.1)) (fun x Q => afl ok0 g0_0 x Q) hF
def Nv (h : List UInt64) (n : Nat) : List UInt8 := upto (fun k o => o.set k (UInt64.toUInt8 (aP (h.getD (k / 8) 0) (8 * ((k % 8 : Nat) : Int))))) (List.replicate n 0) n
def D9 (s : cw) : Bool := decide (s.1.2.2.2.1 = 0 ∧ s.2.2.2.1.length = 8 ∧ s.1.2.2.1 ≤ 64 ∧ 0 ≤ s.1.2.2.1 ∧ s.2.2.2.2.1 = List.replicate s.1.2.2.1.toNat 0)
def K9 (s : cw) : jz := (((), ()), (s.2.1, s.2.2.1, Nv s.2.2.2.1 s.1.2.2.1.toNat, ()))
theorem adZ : ∀ s : cw, D9 s = true → ∃ m e, aB yq m s = some e ∧ (Ea K9 s).run = some e := by
  rintro ⟨⟨⟨⟩, ⟨⟩, n, i, ⟨⟩⟩, ⟨d, w, h, o, ⟨⟩⟩⟩ hh
  have h' := of_decide_eq_true hh
  dsimp only at h'
  obtain ⟨rfl, hl, hn, hn0, rfl⟩ := h'
  obtain ⟨k, rfl⟩ : ∃ k : Nat, n = (k : Int) := ⟨n.toNat, by omega⟩
  have := (bt (T := yq) (fun i o => ((((), (), (k : Int), (i : Int), ()), (d, w, h, o, ())) : cw)) (fun k o => o.set k (UInt64.toUInt8 (aP (h.getD (k / 8) 0) (8 * ((k % 8 : Nat) : Int)))))
    (fun o => (⟨(.exit 0, ql), (((), ()), (d, w, o, ()))⟩ : aS)) k (List.replicate k 0) (fun _ o => o.length = k) (by simp) (fun i o hi ho => ⟨?_, by rw [List.length_set]; exact ho⟩) (fun o ho => ?_)).1
  · obtain ⟨m, hm⟩ := this
    exact ⟨m, _, hm, rfl⟩
  · have t1 : Int.tdiv (i : Int) 8 = ((i / 8 : Nat) : Int) := by rw [Int.tdiv_eq_ediv_of_nonneg (by omega)]; omega
    have t2 : Int.tmod (i : Int) 8 = ((i % 8 : Nat) : Int) := by rw [Int.tmod_eq_emod_of_nonneg (by omega)]; omega
    refine (OT.ax (decide_eq_true (by dsimp only; omega))).trans ((aj ?_).trans ?_)
    · simp only [t1, t2, hl, ho, Int.toNat_natCast, List.all_cons, List.all_nil, Bool.and_true, Bool.and_eq_true]
      exact ⟨⟨trivial, aX (by omega)⟩, aQ (by omega), decide_eq_true (by omega), aX (by omega), decide_eq_true (by omega), aQ (by omega), decide_eq_true (by omega), aX (by omega)⟩
    · simp only [OT.dq, t1, t2, Int.toNat_natCast, Nat.add_zero]
      rfl
  · exact OT.ay (decide_eq_false (by dsimp only; omega))
def pJ (w : List UInt8) : List UInt8 := w.take 128 ++ (List.replicate 128 (0 : UInt8)).drop w.length
theorem pI {w : List UInt8} (h : w.length ≤ 128) : (pJ w).length = 128 := by
  simp only [pJ, List.length_append, List.length_take, List.length_drop, List.length_replicate]
  omega
def aeH (n : Int) (s : List UInt64 × UInt64 × List UInt8) : List UInt8 := Nv (sT s.1 (pJ s.2.2) (s.2.1 + i2u (s.2.2.length : Int)) true) n.toNat
theorem K7 {n : Int} {d : IM} {w : List UInt8} {h : List UInt64} (hh : h.length = 8) (hn0 : 0 ≤ n) (hn : n ≤ 64) : D9 (((), (), n, 0, ()), (d, w, h, List.replicate n.toNat 0, ())) = true := decide_eq_true ⟨rfl, hh, hn, hn0, rfl⟩
def D8 (x : Rb) : Bool := decide (0 ≤ x.2.1.1 ∧ x.2.1.1 ≤ 64 ∧ x.2.2.1.length ≤ 128)
def aaX (x : Rb) : OT lE.Y := .ok ⟨K8, (((), ()), (x.2.1, (x.2.2.1, (aeH x.2.1.1 (wV x.2.1 x.2.2.1), ()))))⟩
theorem adY : ab Try.prog 119 (lE.aE D8 aaX) := Wm D9 K9 adZ _ _ fun x oy hp ho => by
  rw [← ho]
  clear ho
  obtain ⟨⟨⟨⟩, ⟨⟩⟩, ⟨⟨n, h0, h1, h2, h3, h4, h5, h6, h7, ⟨⟩, c, ⟨⟩⟩, w, ⟨⟩⟩⟩ := x
  have hp' := of_decide_eq_true hp
  dsimp only at hp'
  obtain ⟨hn0, hn, hw⟩ := hp'
  have t1 : w.take 128 ++ List.drop w.length (List.replicate 128 (0 : UInt8)) = pJ w := rfl
  have t2 : tab (pJ w) 128 0 = pJ w := tV (pI hw)
  have t3 : min w.length 128 = w.length := by omega
  have hc : ∀ c, (sT [h0, h1, h2, h3, h4, h5, h6, h7] (pJ w) c true).length = 8 := fun c => um rfl
  have t4 : ∀ c, tab (sT [h0, h1, h2, h3, h4, h5, h6, h7] (pJ w) c true) 8 0 = sT [h0, h1, h2, h3, h4, h5, h6, h7] (pJ w) c true := fun c => tV (hc c)
  have t5 : ((List.replicate n.toNat (0 : UInt8)).length : Int) = n := by simp; omega
  refine (aj ?_).trans ?_
  · simp only [t1, t2, t3, t4, t5, pI hw, List.all_cons, List.all_nil, Bool.and_true, Bool.and_eq_true]
    exact ⟨rfl, ⟨⟨⟨decide_eq_true hn0, decide_eq_true (Int.le_refl _)⟩, decide_eq_true (by omega)⟩, decide_eq_true (by omega)⟩, K7 (hc _) hn0 hn⟩
  · simp only [t1, t2, t3, t4, t5, K9]
    rfl
def yo : bO := (lE.aE D8 aaX)
theorem Ra : ab Try.prog 119 yo := adY
theorem Q9 : aD yo := aA
def W7 : Env := av 119 yo nq
theorem W6 : aN Try.prog W7 := ah Ra ko
theorem LU : ar W7 := ac Q9 ri
end Go.Proofs.Ytohjofabochgfaa

namespace Go.Proofs.Ytohjofabochgfaa
open Sx Go
def Sx.ag.nat (e : ag) : Nat := e.w0.toNat + 18446744073709551616 * (e.w1.toNat + 18446744073709551616 * (e.w2.toNat + 18446744073709551616 * e.w3.toNat))
def ofN (n : Nat) : ag := ⟨UInt64.ofNat n, UInt64.ofNat (n / 18446744073709551616), UInt64.ofNat (n / 18446744073709551616 / 18446744073709551616), UInt64.ofNat (n / 18446744073709551616 / 18446744073709551616 / 18446744073709551616)⟩
def nv (x y c : UInt64) : UInt64 := UInt64.ofNat ((x.toNat + y.toNat + c.toNat) % 18446744073709551616)
def o1 (x y c : UInt64) : UInt64 := UInt64.ofNat ((x.toNat + y.toNat + c.toNat) / 18446744073709551616)
def jR (x y c : UInt64) : UInt64 := UInt64.ofNat ((x.toNat + 18446744073709551616 - y.toNat - c.toNat) % 18446744073709551616)
def EN (x y c : UInt64) : UInt64 := UInt64.ofNat (if x.toNat < y.toNat + c.toNat then 1 else 0)
def Xa (x y : UInt64) : UInt64 := UInt64.ofNat (x.toNat * y.toNat / 18446744073709551616)
theorem dp (x : UInt64) (k : Nat) (hk : k < 64) : (aP x (k : Int)).toNat = x.toNat / 2 ^ k := by
  unfold aP
  rw [if_pos (by omega), UInt64.toNat_shiftRight, UInt64.toNat_ofNat', Int.toNat_natCast, Nat.shiftRight_eq_div_pow]
  congr 2
  omega
theorem gE (x : UInt64) (k : Nat) (hk : k < 64) : (bC x (k : Int)).toNat = x.toNat * 2 ^ k % 2 ^ 64 := by
  unfold bC
  rw [if_pos (by omega), UInt64.toNat_shiftLeft, UInt64.toNat_ofNat', Int.toNat_natCast, Nat.shiftLeft_eq]
  congr 3
  omega
theorem fu (x : UInt64) : (x &&& 4294967295).toNat = x.toNat % 4294967296 := by
  rw [UInt64.toNat_and]
  exact Nat.and_two_pow_sub_one_eq_mod x.toNat 32
theorem aeW (a b : UInt64) : aP a 32 * aP b 32 + aP (aP a 32 * (b &&& 4294967295) + aP ((a &&& 4294967295) * (b &&& 4294967295)) 32) 32 +
    aP (((aP a 32 * (b &&& 4294967295) + aP ((a &&& 4294967295) * (b &&& 4294967295)) 32) &&& 4294967295) + (a &&& 4294967295) * aP b 32) 32 = Xa a b := by
  have ha := a.toNat_lt
  have hb := b.toNat_lt
  obtain ⟨h1, h2, h3, h4⟩ := Lib.mul64_hi a.toNat b.toNat ha hb
  have s32 : ∀ x : UInt64, (aP x 32).toNat = x.toNat / 4294967296 := fun x => dp x 32 (by omega)
  have hx := Lib.half_mul_le (a := a.toNat / 4294967296) (b := b.toNat / 4294967296) (by omega) (by omega)
  have hy := Lib.half_mul_le (a := a.toNat / 4294967296) (b := b.toNat % 4294967296) (by omega) (by omega)
  have hz := Lib.half_mul_le (a := a.toNat % 4294967296) (b := b.toNat / 4294967296) (by omega) (by omega)
  have e0 : ((a &&& 4294967295) * (b &&& 4294967295)).toNat = a.toNat % 4294967296 * (b.toNat % 4294967296) := by
    rw [UInt64.toNat_mul, fu, fu, Nat.mod_eq_of_lt h1]
  have e1 : (aP a 32 * (b &&& 4294967295) + aP ((a &&& 4294967295) * (b &&& 4294967295)) 32).toNat = a.toNat / 4294967296 * (b.toNat % 4294967296) + a.toNat % 4294967296 * (b.toNat % 4294967296) / 4294967296 := by
    rw [UInt64.toNat_add, UInt64.toNat_mul, s32, s32, fu, e0, Nat.mod_eq_of_lt (a := a.toNat / 4294967296 * (b.toNat % 4294967296)) (by omega), Nat.mod_eq_of_lt h2]
  have e2 : (((aP a 32 * (b &&& 4294967295) + aP ((a &&& 4294967295) * (b &&& 4294967295)) 32) &&& 4294967295) + (a &&& 4294967295) * aP b 32).toNat =
      (a.toNat / 4294967296 * (b.toNat % 4294967296) + a.toNat % 4294967296 * (b.toNat % 4294967296) / 4294967296) % 4294967296 + a.toNat % 4294967296 * (b.toNat / 4294967296) := by
    rw [UInt64.toNat_add, UInt64.toNat_mul, fu, fu, s32, e1, Nat.mod_eq_of_lt (a := a.toNat % 4294967296 * (b.toNat / 4294967296)) (by omega), Nat.mod_eq_of_lt h3]
  have hq : a.toNat * b.toNat / 18446744073709551616 < 18446744073709551616 := by
    rw [Nat.div_lt_iff_lt_mul (by omega)]
    exact Nat.mul_lt_mul'' ha hb
  rw [← UInt64.toNat_inj, UInt64.toNat_add, UInt64.toNat_add, UInt64.toNat_mul, s32, s32, s32, s32, e1, e2]
  have e3 : (Xa a b).toNat = a.toNat * b.toNat / 18446744073709551616 := by
    unfold Xa
    rw [UInt64.toNat_ofNat', Nat.mod_eq_of_lt hq]
  rw [e3, ← h4]
  rw [← h4] at hq
  omega
def aei (h l y : UInt64) : UInt64 := UInt64.ofNat ((h.toNat * 18446744073709551616 + l.toNat) / y.toNat)
def Hh (h l y : UInt64) : UInt64 := UInt64.ofNat ((h.toNat * 18446744073709551616 + l.toNat) % y.toNat)
theorem ZK {m A B N : Nat} (hm : 0 < m) (e : N = A + m * B) : N / m = B + A / m ∧ N % m = A % m := by
  subst e
  exact ⟨by rw [Nat.add_mul_div_left _ _ hm, Nat.add_comm], Nat.add_mul_mod_self_left ..⟩
theorem DT {m N u t q r K L : Nat} (hm : 0 < m) (hL : 0 < L) (hu : N = u * K + t) (hq : u = q * (m * L) + r) :
    N / m = q * (L * K) + ((r * K + t) * L) / (m * L) ∧ N % m = ((r * K + t) * L) % (m * L) / L := by
  have e : N = (r * K + t) + m * (q * (L * K)) := by
    have h1 : q * (m * L) * K = m * (q * (L * K)) := by
      rw [Nat.mul_assoc q, Nat.mul_assoc m, Nat.mul_left_comm m q]
    rw [hu, hq, Nat.add_mul, h1]
    omega
  obtain ⟨h1, h2⟩ := ZK hm e
  rw [h1, h2, Nat.mul_div_mul_right _ _ hL, Nat.mul_mod_mul_right, Nat.mul_div_cancel _ hL]
  exact ⟨rfl, rfl⟩
theorem ic (x y c : UInt64) : x.toNat + y.toNat + c.toNat = (nv x y c).toNat + 18446744073709551616 * (o1 x y c).toNat := by
  have hx := x.toNat_lt
  have hy := y.toNat_lt
  have hc := c.toNat_lt
  unfold nv o1
  rw [UInt64.toNat_ofNat', UInt64.toNat_ofNat', Nat.mod_eq_of_lt (b := 2 ^ 64) (by omega), Nat.mod_eq_of_lt (b := 2 ^ 64) (by omega)]
  omega
theorem tj {x y c : UInt64} (hc : c.toNat ≤ 1) : (o1 x y c).toNat ≤ 1 := by
  have hx := x.toNat_lt
  have hy := y.toNat_lt
  unfold o1
  rw [UInt64.toNat_ofNat', Nat.mod_eq_of_lt (by omega)]
  omega
theorem po (x y c : UInt64) : (EN x y c).toNat = if x.toNat < y.toNat + c.toNat then 1 else 0 := by
  unfold EN
  rw [UInt64.toNat_ofNat']
  split <;> rfl
theorem rW {x y c : UInt64} : (EN x y c).toNat ≤ 1 := by
  rw [po]
  split <;> omega
theorem pq {x y c : UInt64} (hc : c.toNat ≤ 1) : x.toNat + 18446744073709551616 * (EN x y c).toNat = (jR x y c).toNat + y.toNat + c.toNat := by
  have hx := x.toNat_lt
  have hy := y.toNat_lt
  rw [po]
  unfold jR
  rw [UInt64.toNat_ofNat', Nat.mod_eq_of_lt (b := 2 ^ 64) (by omega)]
  split <;> omega
theorem jg (e : ag) : e.nat < 115792089237316195423570985008687907853269984665640564039457584007913129639936 := by
  have h0 := e.w0.toNat_lt
  have h1 := e.w1.toNat_lt
  have h2 := e.w2.toNat_lt
  have h3 := e.w3.toNat_lt
  unfold Sx.ag.nat
  omega
theorem rG {a b X Y : Nat} (ha : a < 18446744073709551616) (hb : b < 18446744073709551616) (h : a + 18446744073709551616 * X = b + 18446744073709551616 * Y) : a = b ∧ X = Y := by
  omega
theorem ob {e f : ag} (h : e.nat = f.nat) : e = f := by
  unfold Sx.ag.nat at h
  obtain ⟨h0, h⟩ := rG e.w0.toNat_lt f.w0.toNat_lt h
  obtain ⟨h1, h⟩ := rG e.w1.toNat_lt f.w1.toNat_lt h
  obtain ⟨h2, h3⟩ := rG e.w2.toNat_lt f.w2.toNat_lt h
  obtain ⟨a, b, c, d⟩ := e
  obtain ⟨a', b', c', d'⟩ := f
  simp only at h0 h1 h2 h3
  rw [UInt64.toNat_inj.1 h0, UInt64.toNat_inj.1 h1, UInt64.toNat_inj.1 h2, UInt64.toNat_inj.1 h3]
theorem div_eq {n a b : Nat} (ha : a < 18446744073709551616) (h : n = a + 18446744073709551616 * b) : n / 18446744073709551616 = b ∧ n % 18446744073709551616 = a := by
  omega
theorem Ux {n : Nat} {a b c d : UInt64} {k : Nat} (h : n = a.toNat + 18446744073709551616 * (b.toNat + 18446744073709551616 * (c.toNat + 18446744073709551616 * (d.toNat + 18446744073709551616 * k)))) : ofN n = ⟨a, b, c, d⟩ := by
  obtain ⟨h1, h0⟩ := div_eq a.toNat_lt h
  obtain ⟨h2, h3⟩ := div_eq b.toNat_lt h1
  obtain ⟨h4, h5⟩ := div_eq c.toNat_lt h2
  have h6 : n / 18446744073709551616 / 18446744073709551616 / 18446744073709551616 % 18446744073709551616 = d.toNat := by
    rw [h4]
    have := d.toNat_lt
    omega
  unfold ofN
  have e : ∀ (m : Nat) (x : UInt64), m % 18446744073709551616 = x.toNat → UInt64.ofNat m = x := fun m x hm => by
    rw [← UInt64.toNat_inj, UInt64.toNat_ofNat']
    exact hm
  rw [e _ a h0, e _ b h3, e _ c h5, e _ d h6]
theorem C9 (n : Nat) : (ofN n).nat = n % 115792089237316195423570985008687907853269984665640564039457584007913129639936 := by
  unfold ofN ag.nat
  simp only [UInt64.toNat_ofNat']
  rw [show (2 : Nat) ^ 64 = 18446744073709551616 from rfl]
  omega
theorem iQ {n : Nat} (h : n < 115792089237316195423570985008687907853269984665640564039457584007913129639936) : (ofN n).nat = n := by
  rw [C9]
  exact Nat.mod_eq_of_lt h
theorem C8 (e : ag) : ofN e.nat = e := ob (iQ (jg e))
def tP (a b : ag) : ag × Bool := (ofN (a.nat + b.nat), Nat.ble 115792089237316195423570985008687907853269984665640564039457584007913129639936 (a.nat + b.nat))
def nu (a b : ag) : ag × Bool := (ofN (a.nat + 115792089237316195423570985008687907853269984665640564039457584007913129639936 - b.nat), Nat.blt a.nat b.nat)
theorem Et {x y c s k X Y R : Nat} (h1 : x + y + c = s + 18446744073709551616 * k) (h2 : X + Y + k = R) : (x + 18446744073709551616 * X) + (y + 18446744073709551616 * Y) + c = s + 18446744073709551616 * R := by
  omega
theorem CG {x y c s k X Y R Q : Nat} (h1 : x + 18446744073709551616 * k = s + y + c) (h2 : X + 18446744073709551616 * Q = R + Y + k) : (x + 18446744073709551616 * X) + 18446744073709551616 * (18446744073709551616 * Q) = s + 18446744073709551616 * R + (y + 18446744073709551616 * Y) + c := by
  omega
theorem Ak (a b : ag) : let k0 := o1 a.w0 b.w0 0; let k1 := o1 a.w1 b.w1 k0; let k2 := o1 a.w2 b.w2 k1; let k3 := o1 a.w3 b.w3 k2
    (k0.toNat ≤ 1 ∧ k1.toNat ≤ 1 ∧ k2.toNat ≤ 1) ∧ tP a b = (⟨nv a.w0 b.w0 0, nv a.w1 b.w1 k0, nv a.w2 b.w2 k1, nv a.w3 b.w3 k2⟩, !(k3 == 0)) := by
  intro k0 k1 k2 k3
  have l0 : k0.toNat ≤ 1 := tj (by decide)
  have l1 : k1.toNat ≤ 1 := tj l0
  have l2 : k2.toNat ≤ 1 := tj l1
  have l3 : k3.toNat ≤ 1 := tj l2
  refine ⟨⟨l0, l1, l2⟩, ?_⟩
  have h := Et (ic a.w0 b.w0 0) (Et (ic a.w1 b.w1 k0) (Et (ic a.w2 b.w2 k1) (ic a.w3 b.w3 k2)))
  rw [show (0 : UInt64).toNat = 0 from rfl, Nat.add_zero] at h
  unfold tP
  have hn : a.nat + b.nat = (nv a.w0 b.w0 0).toNat + 18446744073709551616 * ((nv a.w1 b.w1 k0).toNat + 18446744073709551616 * ((nv a.w2 b.w2 k1).toNat + 18446744073709551616 * ((nv a.w3 b.w3 k2).toNat + 18446744073709551616 * k3.toNat))) := h
  rw [Ux hn]
  congr 1
  have hs := jg ⟨nv a.w0 b.w0 0, nv a.w1 b.w1 k0, nv a.w2 b.w2 k1, nv a.w3 b.w3 k2⟩
  unfold Sx.ag.nat at hs
  simp only at hs
  have hk : k3.toNat = 0 ∨ k3.toNat = 1 := by omega
  rcases hk with hk | hk
  · have e : k3 = 0 := UInt64.toNat_inj.1 hk
    rw [hk] at hn
    rw [e]
    cases hb : Nat.ble 115792089237316195423570985008687907853269984665640564039457584007913129639936 (a.nat + b.nat)
    · rfl
    · have := Nat.le_of_ble_eq_true hb
      omega
  · have e : (k3 == 0) = false := by
      have : ¬ k3 = 0 := fun e => by rw [e] at hk; cases hk
      simpa using this
    rw [hk] at hn
    rw [e]
    exact Nat.ble_eq_true_of_le (by omega)
theorem Aq (a b : ag) : let k0 := EN a.w0 b.w0 0; let k1 := EN a.w1 b.w1 k0; let k2 := EN a.w2 b.w2 k1; let k3 := EN a.w3 b.w3 k2
    (k0.toNat ≤ 1 ∧ k1.toNat ≤ 1 ∧ k2.toNat ≤ 1) ∧ nu a b = (⟨jR a.w0 b.w0 0, jR a.w1 b.w1 k0, jR a.w2 b.w2 k1, jR a.w3 b.w3 k2⟩, !(k3 == 0)) := by
  intro k0 k1 k2 k3
  have l0 : k0.toNat ≤ 1 := rW
  have l1 : k1.toNat ≤ 1 := rW
  have l2 : k2.toNat ≤ 1 := rW
  have l3 : k3.toNat ≤ 1 := rW
  refine ⟨⟨l0, l1, l2⟩, ?_⟩
  have h := CG (pq (x := a.w0) (y := b.w0) (c := 0) (by decide)) (CG (pq (x := a.w1) (y := b.w1) l0) (CG (pq (x := a.w2) (y := b.w2) l1) (pq (x := a.w3) (y := b.w3) l2)))
  rw [show (0 : UInt64).toNat = 0 from rfl, Nat.add_zero] at h
  unfold nu
  have hs := jg ⟨jR a.w0 b.w0 0, jR a.w1 b.w1 k0, jR a.w2 b.w2 k1, jR a.w3 b.w3 k2⟩
  have h' : a.nat + 18446744073709551616 * (18446744073709551616 * (18446744073709551616 * (18446744073709551616 * k3.toNat))) = ag.nat ⟨jR a.w0 b.w0 0, jR a.w1 b.w1 k0, jR a.w2 b.w2 k1, jR a.w3 b.w3 k2⟩ + b.nat := h
  have ha := jg a
  have hb := jg b
  have hS := jg ⟨jR a.w0 b.w0 0, jR a.w1 b.w1 k0, jR a.w2 b.w2 k1, jR a.w3 b.w3 k2⟩
  have e1 : ofN (a.nat + 115792089237316195423570985008687907853269984665640564039457584007913129639936 - b.nat) = ⟨jR a.w0 b.w0 0, jR a.w1 b.w1 k0, jR a.w2 b.w2 k1, jR a.w3 b.w3 k2⟩ := by
    apply ob
    rw [C9]
    generalize ag.nat ⟨jR a.w0 b.w0 0, jR a.w1 b.w1 k0, jR a.w2 b.w2 k1, jR a.w3 b.w3 k2⟩ = S at *
    omega
  rw [e1]
  congr 1
  generalize ag.nat ⟨jR a.w0 b.w0 0, jR a.w1 b.w1 k0, jR a.w2 b.w2 k1, jR a.w3 b.w3 k2⟩ = S at *
  have hk : k3.toNat = 0 ∨ k3.toNat = 1 := by omega
  rcases hk with hk | hk
  · have e : k3 = 0 := UInt64.toNat_inj.1 hk
    rw [hk] at h'
    rw [e]
    cases hq : Nat.blt a.nat b.nat
    · rfl
    · have := cK hq
      omega
  · have e : (k3 == 0) = false := by
      have : ¬ k3 = 0 := fun e => by rw [e] at hk; cases hk
      simpa using this
    rw [hk] at h'
    rw [e]
    exact Nat.ble_eq_true_of_le (show a.nat + 1 ≤ b.nat by omega)
def lst (e : ag) : List UInt64 := [e.w0, e.w1, e.w2, e.w3]
def elemOf (l : List UInt64) : ag := ⟨l.getD 0 0, l.getD 1 0, l.getD 2 0, l.getD 3 0⟩
theorem b8 {l : List UInt64} (h : l.length = 4) : lst (elemOf l) = l := by
  match l, h with
  | [a, b, c, d], _ => rfl
theorem ee (e : ag) : (lst e).length = 4 := rfl
theorem ka {h l y : UInt64} (hy : 0 < y.toNat) : (Hh h l y).toNat = (h.toNat * 18446744073709551616 + l.toNat) % y.toNat := by
  unfold Hh
  rw [UInt64.toNat_ofNat']
  exact Nat.mod_eq_of_lt (Nat.lt_trans (Nat.mod_lt _ hy) y.toNat_lt)
theorem Df (r x m : Nat) : (r % m * 18446744073709551616 + x) % m = (r * 18446744073709551616 + x) % m := by
  rw [Nat.add_mod, Nat.mul_mod, Nat.mod_mod, ← Nat.mul_mod, ← Nat.add_mod]
theorem L7 (a b : ag) : (nu a b).2 = Nat.blt a.nat b.nat := rfl
theorem o6 {a b : ag} (h : b.nat ≤ a.nat) : (nu a b).1.nat = a.nat - b.nat := by
  have ha := jg a
  show (ofN _).nat = _
  rw [C9]
  omega
theorem Lj {w N r : Nat} (hr : r < 64) : (w + 18446744073709551616 * N) / 2 ^ r % 2 = w / 2 ^ r % 2 := by
  have e : 18446744073709551616 * N = 2 ^ r * (2 * (2 ^ (63 - r) * N)) := by
    rw [← Nat.mul_assoc, ← Nat.mul_assoc, Nat.mul_comm (2 ^ r) 2, Nat.mul_assoc 2, ← Nat.pow_add, show r + (63 - r) = 63 by omega]
  rw [e, Nat.add_mul_div_left _ _ (Nat.two_pow_pos r), Nat.add_mul_mod_self_left]
theorem rF {w N : Nat} (hw : w < 18446744073709551616) (r : Nat) : (w + 18446744073709551616 * N) / 2 ^ (64 + r) = N / 2 ^ r := by
  rw [Nat.pow_add, ← Nat.div_div_eq_div_mul, show 2 ^ 64 = 18446744073709551616 from rfl, show (w + 18446744073709551616 * N) / 18446744073709551616 = N by omega]
theorem OX {a : ag} {q r : Nat} (hq : q < 4) (hr : r < 64) : ((lst a).getD q 0).toNat / 2 ^ r % 2 = a.nat / 2 ^ (64 * q + r) % 2 := by
  have h0 := a.w0.toNat_lt
  have h1 := a.w1.toNat_lt
  have h2 := a.w2.toNat_lt
  unfold Sx.ag.nat
  have hq' : q = 0 ∨ q = 1 ∨ q = 2 ∨ q = 3 := by omega
  rcases hq' with rfl | rfl | rfl | rfl
  · rw [Nat.mul_zero, Nat.zero_add, Lj hr]; rfl
  · rw [show 64 * 1 + r = 64 + r by omega, rF h0, Lj hr]; rfl
  · rw [show 64 * 2 + r = 64 + (64 + r) by omega, rF h0, rF h1, Lj hr]; rfl
  · rw [show 64 * 3 + r = 64 + (64 + (64 + r)) by omega, rF h0, rF h1, rF h2]; rfl
def aek (n i : Nat) : Bool := Nat.beq (n / 2 ^ i % 2) 1
theorem ad5 (x : UInt64) : (x &&& 1 == 1) = Nat.beq (x.toNat % 2) 1 := by
  have e : (x &&& 1).toNat = x.toNat % 2 := by
    rw [UInt64.toNat_and]
    exact Nat.and_two_pow_sub_one_eq_mod x.toNat 1
  rw [← e]
  by_cases h : x &&& 1 = 1
  · rw [h]; rfl
  · have h' : ¬ (x &&& 1).toNat = 1 := fun h' => h (UInt64.toNat_inj.1 h')
    have h2 : Nat.beq (x &&& 1).toNat 1 = false := by
      cases hb : Nat.beq (x &&& 1).toNat 1
      · rfl
      · exact absurd (Nat.eq_of_beq_eq_true hb) h'
    rw [h2]
    simpa using h
end Go.Proofs.Ytohjofabochgfaa
