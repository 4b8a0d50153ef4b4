/- A symbolic machine for Go code over plain data, and functions of the program as it shows them. No statement is proved in this file. -/
import Derived.ProofKit
import Derived.Below
import Derived.OpenShut
import Derived.SizedLaws
import Derived.WalkKit
import Derived.ChangeOld
import Derived.Test.YtohjofabochgfaaGreatProg
import Derived.KernelRfl
import Derived.Laws.Externs
import Derived.Lib.Mul64
import Derived.Test.YtohjofabochgfaaGreatXb
set_option linter.unusedSimpArgs false
set_option linter.unusedVariables false
set_option linter.unusedSectionVars false

namespace Go.Proofs.YtohjofabochgfaaGreat
namespace Sx
open Go
theorem kl : ∀ {l : List (Nat × Sh)} {x : SlT l} {tm : List SV}, (eM l x tm).length = tm.length
  | [], _, _ => rfl
  | c :: r, x, tm => by simp only [eM, kl, List.length_set]
theorem sa : ∀ {rs : List Sh} {i j : Nat} {x : SlT (indexed j rs)} {tm : List SV}, i < j → (eM (indexed j rs) x tm)[i]? = tm[i]?
  | [], _, _, _, _, _ => rfl
  | s :: r, i, j, x, tm, h => by
    simp only [indexed, eM]
    refine (sa (rs := r) (i := i) (j := j + 1) (x := x.2) (by omega)).trans ?_
    rw [List.getElem?_set_ne (by omega)]
theorem om {N R : Ctx} {ν : Nm} {lists : Bool} (hr : Lx N R ν lists) : ∀ {rs : List Sh} (_ : lists = true ∨ rs.any Sh.cD = false) {i : Nat} {y : SlT (indexed i rs)} {tm : List SV} {us : List Value}, tm.length = i + rs.length →
    SV.bQ N (eM (indexed i rs) y tm) us → SV.bQ R (av.emit.go ν i rs y) (us.drop i)
  | [], _, i, y, tm, us, hl, h => by
    have := SV.aQ h
    simp only [indexed, eM] at this
    simp only [List.length_nil] at hl
    simp only [av.emit.go]
    rw [List.drop_eq_nil_of_le (by omega)]
    exact qp
  | s :: r, hl', i, y, tm, us, hl, h => by
    have h1 : lists = true ∨ s.cD = false := hl'.imp_right fun e => by simp only [List.any_cons, Bool.or_eq_false_iff] at e; exact e.1
    have h2 : lists = true ∨ r.any Sh.cD = false := hl'.imp_right fun e => by simp only [List.any_cons, Bool.or_eq_false_iff] at e; exact e.2
    simp only [List.length_cons] at hl
    have hlen := SV.aQ h
    rw [kl] at hlen
    have hi : i < us.length := by omega
    have ih := om hr h2 (i := i + 1) (y := y.2) (tm := tm.set i (pa s y.1)) (us := us) (by rw [List.length_set]; omega) h
    have hi2 : i < (eM (indexed i (s :: r)) y tm).length := by rw [kl]; omega
    have hv := SV.kJ h i hi2 hi
    have hg : (eM (indexed i (s :: r)) y tm)[i] = pa s y.1 := by
      have : (eM (indexed i (s :: r)) y tm)[i]? = some (pa s y.1) := by
        simp only [indexed, eM]
        refine (sa (rs := r) (i := i) (j := i + 1) (x := y.2) (by omega)).trans ?_
        rw [List.getElem?_set_self (by omega)]
      rw [List.getElem?_eq_getElem hi2] at this
      exact Option.some.inj this
    rw [hg] at hv
    simp only [av.emit.go]
    rw [List.drop_eq_getElem_cons hi]
    simp only [SV.bQ]
    exact ⟨_, _, rfl, Mk hr h1 hv, ih⟩
theorem ED {ν : Nm} : ∀ {rs : List Sh} {i : Nat} {y : SlT (indexed i rs)}, (av.emit.go ν i rs y).length = rs.length
  | [], _, _ => rfl
  | s :: r, i, y => by simp only [av.emit.go, List.length_cons, ED]
theorem akK {R : Ctx} {n : Nat} {x : SV} {v : Value} {l : List SV} (hv : SV.rel R x v) (hn : (aek n x).length = n) (hl : l.length = n) : ∃ us, SV.bQ R (aek n x) us ∧ ∀ R', SV.bQ R' l us → SV.rel R' (oneOf l) v := by
  unfold aek at hn ⊢
  cases hb : Nat.beq n 1
  · rw [hb] at hn
    simp only [cond_false] at hn ⊢
    have hne : n ≠ 1 := fun e => by subst e; cases hb
    cases x <;> simp only [List.length_replicate] at hn ⊢ <;> try omega
    case tup q =>
      simp only [SV.rel] at hv
      obtain ⟨vs, rfl, h1⟩ := hv
      refine ⟨vs, h1, fun R' h2 => ?_⟩
      cases l with
      | nil => simp only [oneOf, SV.rel]; exact ⟨vs, rfl, h2⟩
      | cons a l =>
        cases l with
        | nil => simp at hl; omega
        | cons b l => simp only [oneOf, SV.rel]; exact ⟨vs, rfl, h2⟩
  · have := Nat.eq_of_beq_eq_true hb
    subst this
    simp only [cond_true]
    refine ⟨[v], aY hv, fun R' h2 => ?_⟩
    cases l with
    | nil => simp at hl
    | cons a l =>
      cases l with
      | nil =>
        simp only [oneOf]
        obtain ⟨v', e, h⟩ := cm h2
        cases e
        exact h
      | cons b l => simp at hl
section
variable {P : Program} {te : TE} {Φ : Env} (hte : lv P te) (hΦ : aV P Φ) (hany : aZ P te Φ)
theorem agV {R N1 : Ctx} {w w' : World} {S : av} {args : List SV} {x : S.T} {k d : Nat} (hm : dj R w) (hx : S.inp.prj ⟨args, R.hp⟩ = some x)
    (hk : S.chunks.all (fun c => Nat.blt c.1 k && !c.2.vv) = true)
    (h1 : (R.named (R.Al (S.inp.bd ⟨args, R.hp⟩) S.bJ w) (R.Gt (S.inp.bd ⟨args, R.hp⟩) S.bJ w) (S.inp.bd ⟨args, R.hp⟩) (dI S.chunks x.2)).Ext N1) (hm1 : dj N1 w') {o : az} {y : (o.shape S.fixed).T} {pan : Bool} {v : SV} {u : Value}
    (hv : SV.rel N1 v u) (hy : o.is y pan v N1.hp) (hend : S.tu (S.inp.bd ⟨args, R.hp⟩) R.hp (fresh R.hp d) o = true) :
    ∃ R', eH R R' w' (cR (S.inp.bd ⟨args, R.hp⟩) R.hp S.fixed S.chunks ++ jA (S.nm (S.inp.bd ⟨args, R.hp⟩) R.hp (fresh R.hp d)) o.chunks y.2) ∧
      SV.rel R' (oneOf (av.emit.indexedN (S.nm (S.inp.bd ⟨args, R.hp⟩) R.hp (fresh R.hp d)) o.rs y.1)) u := by
  obtain ⟨_, hy⟩ := hy
  unfold Shape.prj at hx
  dsimp only at hx
  generalize hbd : S.inp.bd ⟨args, R.hp⟩ = bd at *
  cases hb : S.inp.Gb ⟨args, R.hp⟩ bd && Nat.beq args.length S.inp.n
  · rw [hb] at hx; cases hx
  · rw [hb] at hx
    rw [Bool.and_eq_true] at hb
    obtain ⟨hx1, hx2⟩ := bC hx
    have hy' := hy
    unfold Shape.prj at hy'
    dsimp only at hy'
    cases hb2 : (o.shape S.fixed).Gb ⟨aek o.rs.length v, N1.hp⟩ ((o.shape S.fixed).bd ⟨aek o.rs.length v, N1.hp⟩) && Nat.beq (aek o.rs.length v).length (o.shape S.fixed).n
    · rw [hb2] at hy'; cases hy'
    · rw [hb2] at hy'
      rw [Bool.and_eq_true] at hb2
      obtain ⟨hy1, hy2⟩ := bC hy'
      have hlen : (aek o.rs.length v).length = o.rs.length := Nat.eq_of_beq_eq_true hb2.2
      obtain ⟨us, hus, hback⟩ := akK (l := av.emit.indexedN (S.nm bd R.hp (fresh R.hp d)) o.rs y.1) hv hlen ED
      have hsm : Small ((R.named (R.Al bd S.bJ w) (R.Gt bd S.bJ w) bd (dI S.chunks x.2)).att S.fixed) (o.shape S.fixed).fixed := fun c ch hc => by
        replace hc : cond (Nat.blt c S.fixed) (dI S.chunks x.2 c) none = some ch := hc
        cases hq : Nat.blt c S.fixed
        · rw [hq] at hc; cases hc
        · rw [hq] at hc
          refine ⟨cL hq, ?_⟩
          obtain ⟨s, y', g1, g2, g3⟩ := dP hx2 (hc : dI S.chunks x.2 c = some ch)
          have := (List.all_eq_true.1 hk) _ g1
          simp only [Bool.and_eq_true, Bool.not_eq_true'] at this
          rw [g3]
          cases s <;> first | rfl | (cases this.2; done)
      have hext : ((R.named (R.Al bd S.bJ w) (R.Gt bd S.bJ w) bd (dI S.chunks x.2)).att S.fixed).Ext N1 := ⟨h1.F, h1.U, fun c ch hc => by
        replace hc : cond (Nat.blt c S.fixed) (dI S.chunks x.2 c) none = some ch := hc
        cases hq : Nat.blt c S.fixed
        · rw [hq] at hc; cases hc
        · rw [hq] at hc
          exact h1.ch c ch hc⟩
      obtain ⟨N2, g1, g2⟩ := Shape.auj (s := o.shape S.fixed) (a := { tmps := us.toArray, defers := [] }) hsm hext ⟨rfl, hm1, hus, rfl⟩ hy
      have hd2 : distinct (o.chunks.map (·.1)) = true := by
        have := hb2.1
        unfold Shape.Gb at this
        simp only [Bool.and_eq_true] at this
        exact this.1.1.1
      have H : ue R w w' S args bd x.2 N2 o y.2 (fresh R.hp d) := ⟨hm, hb.1, hx2, g1, g2.mem, g2.hp, ⟨_, _, _, hy2⟩, hd2, hend⟩
      refine ⟨R.dC bd w S N2 o y.2 (fresh R.hp d), abT H, hback _ ?_⟩
      have ht := g2.tm
      have := om (aem H) (rs := o.rs) ?_ (i := 0) (y := y.1) (tm := List.replicate o.rs.length .bH) (us := us) (by simp) ht
      · exact this
      · rcases np H with h | h
        · exact .inl (by rw [h]; rfl)
        · exact .inr h.1
include hte hΦ hany
theorem asY {f : FuncId} {fn : Func} {c : Code} (hf : P.funcs[f]? = some fn) (hb : fn.body = some c) (hname : (fn.name == "runtime.NumGoroutine") = false) {S : av} {k : Nat} (hk : S.chunks.all (fun c => Nat.blt c.1 k && !c.2.vv) = true) {Λ : Lam}
    (hΛ : ∀ R, Small R k → EY P R Λ c) {n : Nat} {pre : S.T → Bool} {F : S.T → OT S.Y}
    (h : ∀ x oy, pre x = true → (F x).run = some oy → ∃ K Kp, wpf te Φ Λ n fn (S.inp.inj x).tm (S.inp.inj x).hp K Kp ∧ (∀ v hp, K v hp → oy.1.is oy.2 false v hp) ∧ ∀ v hp, Kp v hp → oy.1.is oy.2 true v hp) : ac P f (S.aH pre F) := by
  refine ⟨?_⟩
  intro R w d args vs out hm hr hrun
  refine .inl ⟨fn, hf, hname, by rw [hb]; rfl, ?_⟩
  simp only [av.aH] at hrun
  split at hrun
  · cases hrun
  · rename_i x hx
    obtain ⟨hpre, h2⟩ := OT.aE hrun
    obtain ⟨oy, h3, h4⟩ := OT.run_bind h2
    unfold av.emit at h4
    dsimp only at h4
    obtain ⟨hend, h5⟩ := OT.aE h4
    obtain ⟨K, Kp, hwp, hK1, hK2⟩ := h x oy hpre h3
    have hx' := hx
    unfold Shape.prj at hx'
    dsimp only at hx'
    cases hbo : S.inp.Gb ⟨args, R.hp⟩ (S.inp.bd ⟨args, R.hp⟩) && Nat.beq args.length S.inp.n
    · rw [hbo] at hx'; cases hx'
    · rw [hbo] at hx'
      rw [Bool.and_eq_true] at hbo
      obtain ⟨hx1, hx2⟩ := bC hx'
      have hlen : args.length = S.inp.n := Nat.eq_of_beq_eq_true hbo.2
      have hN := J9 (s := S.inp) (st := ⟨args, R.hp⟩) (F' := R.Al (S.inp.bd ⟨args, R.hp⟩) S.bJ w) (U' := R.Gt (S.inp.bd ⟨args, R.hp⟩) S.bJ w) hbo.1 hx2 rfl hm (Ox hm) (Ky hm) agt (Ow hm) Ov ant hm.env
      have hargs : SV.bQ (R.named (R.Al (S.inp.bd ⟨args, R.hp⟩) S.bJ w) (R.Gt (S.inp.bd ⟨args, R.hp⟩) S.bJ w) (S.inp.bd ⟨args, R.hp⟩) (dI S.chunks x.2)) (S.inp.inj x).tm vs :=
        kP (s := S.inp) (st := ⟨args, R.hp⟩) hbo.1 hx2 rfl hm (Ox hm) (Ky hm) hr hx1 (SV.xp (by rw [List.length_replicate, ← hlen]; exact SV.aQ hr) fun i hi hi' => by simp [SV.rel])
      have hsm : Small (R.named (R.Al (S.inp.bd ⟨args, R.hp⟩) S.bJ w) (R.Gt (S.inp.bd ⟨args, R.hp⟩) S.bJ w) (S.inp.bd ⟨args, R.hp⟩) (dI S.chunks x.2)) k := fun c ch hc => by
        obtain ⟨s, y', g1, g2, g3⟩ := dP hx2 (hc : dI S.chunks x.2 c = some ch)
        have := (List.all_eq_true.1 hk) _ g1
        simp only [Bool.and_eq_true, Bool.not_eq_true'] at this
        refine ⟨cL this.1, ?_⟩
        rw [g3]
        cases s <;> first | rfl | (cases this.2; done)
      refine (acr hte hΦ hany hf hb (hΛ _ hsm) hN hargs hwp).mono fun en w' hp => ?_
      rcases hp with ⟨y, v, R₁, rfl, hx1, hm1, hv, hy⟩ | ⟨y, v, R₁, rfl, hx1, hm1, hv, hy⟩
      · replace hy := hK1 _ _ hy
        obtain ⟨R', a1, a2⟩ := agV hm hx hk hx1 hm1 hv hy hend
        rw [hy.1] at h5
        cases h5
        exact ⟨v, R', rfl, a1, a2⟩
      · replace hy := hK2 _ _ hy
        obtain ⟨R', a1, a2⟩ := agV hm hx hk hx1 hm1 hv hy hend
        rw [hy.1] at h5
        cases h5
        exact ⟨v, R', rfl, a1, a2⟩
end
end Sx
end Go.Proofs.YtohjofabochgfaaGreat

namespace Go.Proofs.YtohjofabochgfaaGreat
namespace Sx
open Go
theorem PT {b : Bd} {n m : Nat} {o o' : Option Nat} (h : cX b m = some o') : cX (TV b n o) m = some o' := by
  unfold TV
  split
  · exact h
  · rename_i hn
    simp only [cX]
    cases hb : Nat.beq n m
    · exact h
    · have := Nat.eq_of_beq_eq_true hb
      subst this
      rw [h] at hn
      cases hn
theorem Ar : ∀ {ns : List Nat} {l : List SV} {b : Bd} {m : Nat} {o : Option Nat}, cX b m = some o → cX (BT ns l b) m = some o
  | [], _, _, _, _, h => h
  | n :: ns, [], _, _, _, h => h
  | n :: ns, y :: r, b, m, o, h => by
    cases y <;> simp only [BT] <;> first | exact h | exact Ar (PT h)
theorem TS {s : Sh} {x : SV} {b : Bd} {m : Nat} {o : Option Nat} (h : cX b m = some o) : cX (Lo s x b) m = some o := by
  unfold Lo
  split <;> first | exact h | exact PT h | exact Ar h
theorem nv : ∀ {l : List Sh} {cs : List SV} {b : Bd} {m : Nat} {o : Option Nat}, cX b m = some o → cX (mw l cs b) m = some o
  | [], _, _, _, _, h => h
  | s :: r, cs, b, m, o, h => by
    simp only [mw]
    exact nv (TS h)
theorem lu {hp : Hp} : ∀ {l : List (Nat × CSh)} {b : Bd} {m : Nat} {o : Option Nat}, cX b m = some o → cX (eD hp l b) m = some o
  | [], _, _, _, h => h
  | (n, s) :: r, b, m, o, h => by
    cases s <;> simp only [eD]
    case cells l =>
      refine lu ?_
      split
      · split
        · exact nv h
        · exact h
      · exact h
    all_goals exact lu h
section
variable {d : Nat} {hp hp' : Hp} (hg : ab4 d hp hp')
include hg
theorem jd : ∀ {l : List (Nat × CSh)} {b : Bd}, (∀ q ∈ l, ∀ c, cX (eD hp l b) q.1 = some (some c) → hp c ≠ none) → eD hp' l b = eD hp l b
  | [], _, _ => rfl
  | (n, s) :: r, b, h => by
    cases s <;> simp only [eD] at h ⊢
    case cells l =>
      have e : (match cX b n with | some (some c) => (match hp' c with | some ⟨_, .cells vs⟩ => mw l vs b | _ => b) | _ => b) = (match cX b n with | some (some c) => (match hp c with | some ⟨_, .cells vs⟩ => mw l vs b | _ => b) | _ => b) := by
        split
        · rename_i c hc
          have h1 := h (n, .cells l) (by simp) c (lu (by
            split
            · split
              · exact nv hc
              · exact hc
            · exact hc))
          cases hq : hp c with
          | none => exact absurd hq h1
          | some ch => rw [hg.kk _ _ hq]
        · rfl
      exact (congrArg (eD hp' r) e).trans (jd fun q hq c hc => h q (List.mem_cons_of_mem _ hq) c hc)
    all_goals exact jd fun q hq c hc => h q (List.mem_cons_of_mem _ hq) c hc
theorem ni {bd : Bd} {n c e : Nat} (h : yK bd hp n c e = true) : yK bd hp' n c e = true := by
  unfold yK at h ⊢
  split at h
  · rename_i c' hc
    rw [Bool.and_eq_true] at h
    have h2 := h.2
    split at h2
    · rename_i ch hch
      rw [hg.kk _ _ hch]
      simp only
      rw [h.1, h2]
      rfl
    · cases h2
  · cases h
theorem vW {bd : Bd} : ∀ {ns : List Nat} {l : List SV}, tH bd hp ns l = true → tH bd hp' ns l = true
  | [], [], _ => rfl
  | [], _ :: _, h => by cases h
  | n :: ns, [], h => by cases h
  | n :: ns, y :: r, h => by
    cases y <;> simp only [tH] at h ⊢ <;> try (cases h; done)
    simp only [Bool.and_eq_true] at h ⊢
    exact ⟨⟨⟨ni hg h.1.1.1, h.1.1.2⟩, h.1.2⟩, vW h.2⟩
theorem SN {bd : Bd} {s : Sh} {cs : List SV} (h : kG bd hp s cs = true) : kG bd hp' s cs = true := by
  unfold kG at h ⊢
  split at h
  · exact ni hg h
  · exact h
  · simp only [Bool.and_eq_true] at h ⊢
    exact ⟨⟨ni hg h.1.1, h.1.2⟩, h.2⟩
  · simp only [Bool.and_eq_true] at h ⊢
    exact ⟨h.1, vW hg h.2⟩
  · simp only [Bool.and_eq_true] at h ⊢
    exact ⟨h.1, ni hg h.2.1, h.2.2⟩
  · rfl
  · rfl
  · rfl
  · cases h
theorem Ls {ok : Nat → Bool} {t : Ty} {x : SV} {ys : List t.T} (h : zi ok t hp x = some ys) : zi ok t hp' x = some ys := by
  have key : ∀ {c : Nat} {f : Option Ch → Option (List t.T)}, f none = none → f (hp c) = some ys → f (hp' c) = some ys := fun {c f} h0 h => by
    cases hq : hp c with
    | none => rw [hq, h0] at h; cases h
    | some ch => rw [hg.kk _ _ hq, ← hq]; exact h
  cases x <;> simp only [zi] at h ⊢ <;> try (first | exact h | (cases h; done))
  case own c e => exact key (c := c) (f := fun o => match o with | some ⟨ep, .row t' xs⟩ => cond (Nat.beq ep e && ok c) (bU t t' xs) none | some ⟨ep, .frz t' xs⟩ => cond (Nat.beq ep e) (bU t t' xs) none | _ => none) rfl h
  case clip c e => exact key (c := c) (f := fun o => match o with | some ⟨ep, .row t' xs⟩ => cond (Nat.beq ep e && ok c) (bU t t' xs) none | some ⟨ep, .frz t' xs⟩ => cond (Nat.beq ep e) (bU t t' xs) none | _ => none) rfl h
  case part c e off len => exact key (c := c) (f := fun o => match o with | some ⟨ep, .row t' xs⟩ => cond (Nat.beq ep e && ok c) ((bU t t' xs).map fun l => (l.drop off).take len) none | some ⟨ep, .frz t' xs⟩ => cond (Nat.beq ep e) ((bU t t' xs).map fun l => (l.drop off).take len) none | _ => none) rfl h
theorem m5 {ok : Nat → Bool} : ∀ {t : Ty} {cs : List SV} {x : t.T}, s9 ok hp t cs = some x → s9 ok hp' t cs = some x
  | .bool, _, _, h => h
  | .u64, _, _, h => h
  | .u8, _, _, h => h
  | .int, _, _, h => h
  | .str, _, _, h => h
  | .elem, _, _, h => h
  | .prod a b, cs, x, h => by
    obtain ⟨h1, h2⟩ := bC h
    simp only [s9, m5 h1, m5 h2, oX]
  | .arr n t, cs, x, h => by
    simp only [s9] at h ⊢
    split at h
    · rename_i hl
      rw [if_pos hl]
      exact jw (fun _ _ => m5) h
    · cases h
  | .list t, cs, x, h => by
    simp only [s9] at h ⊢
    split at h
    · rename_i hp0
      rw [if_pos hp0]
      obtain ⟨y, rfl, hy⟩ := lU h
      simp only [anl]
      exact Ls hg hy
    · cases h
omit hg in
theorem Sa {a b : Bool} {x : Unit} (hab : a = true → b = true) (h : Gl a = some x) : Gl b = some x := by
  rw [hab (hZ h)]; rfl
theorem Aa {bd : Bd} {ok : Nat → Bool} {s : Sh} {cs : List SV} {x : s.T} (h : oQ bd ok hp s cs = some x) : oQ bd ok hp' s cs = some x := by
  cases s <;> simp only [oQ] at h ⊢
  case val b t => exact m5 hg h
  all_goals exact Sa (SN hg) h
theorem JQ {bd : Bd} {ok : Nat → Bool} {s : Sh} {y : SV} {x : s.T} (h : yg bd ok hp s y = some x) : yg bd ok hp' s y = some x := by
  unfold yg at h ⊢
  split at h
  · exact Aa hg h
  · cases h
theorem r8 {bd : Bd} {ok : Nat → Bool} : ∀ {l : List Sh} {cs : List SV} {x : ShT l}, kQ bd ok hp l cs = some x → kQ bd ok hp' l cs = some x
  | [], [], _, h => h
  | [], _ :: _, _, h => by cases h
  | s :: r, cs, x, h => by
    obtain ⟨h1, h2⟩ := bC (show oX (oQ bd ok hp s (cs.take s.size)) (kQ bd ok hp r (cs.drop s.size)) = some x from h)
    show oX (oQ bd ok hp' s (cs.take s.size)) (kQ bd ok hp' r (cs.drop s.size)) = some x
    rw [Aa hg h1, r8 h2]
    rfl
theorem r6 {bd : Bd} {ok : Nat → Bool} {tm : List SV} : ∀ {l : List (Nat × Sh)} {x : SlT l}, qO bd ok hp tm l = some x → qO bd ok hp' tm l = some x
  | [], _, h => h
  | c :: r, x, h => by
    obtain ⟨h1, h2⟩ := bC h
    simp only [qO, JQ hg h1, r6 h2, oX]
    rfl
theorem Gj {bd : Bd} {ok : Nat → Bool} {s : CSh} {b : Chunk} {x : s.T} (h : gw bd ok hp s b = some x) : gw bd ok hp' s b = some x := by
  cases s <;> cases b <;> simp only [gw] at h ⊢ <;> first | exact h | exact r8 hg h
theorem NO {bd : Bd} {ok : Nat → Bool} {n : Nat} {s : CSh} {x : s.T} (h : jf bd ok hp n s = some x) : jf bd ok hp' n s = some x := by
  unfold jf at h ⊢
  split at h
  · split at h
    · rename_i ch hch
      rw [hg.kk _ _ hch]
      exact Gj hg h
    · cases h
  · exact h
  · exact h
theorem oR {bd : Bd} {ok : Nat → Bool} : ∀ {l : List (Nat × CSh)} {x : Ga l}, dL bd ok hp l = some x → dL bd ok hp' l = some x
  | [], _, h => h
  | c :: r, x, h => by
    obtain ⟨h1, h2⟩ := bC h
    simp only [dL, NO hg h1, oR h2, oX]
    rfl
omit hg in
theorem m4 {bd : Bd} {ok : Nat → Bool} : ∀ {l : List (Nat × CSh)} {x : Ga l}, dL bd ok hp l = some x → ∀ q ∈ l, ∀ c, cX bd q.1 = some (some c) → hp c ≠ none
  | [], _, _, _, hq, _, _ => by cases hq
  | c :: r, x, h, q, hq, c', hb => by
    obtain ⟨h1, h2⟩ := bC h
    rcases List.mem_cons.1 hq with he | he
    · subst he
      unfold jf at h1
      rw [hb] at h1
      simp only at h1
      intro hn
      rw [hn] at h1
      cases h1
    · exact m4 h2 q he c' hb
theorem afw {s : Shape} (hfx : s.fixed = 0) {tm : List SV} {x : s.T} (h : s.prj ⟨tm, hp⟩ = some x) : s.prj ⟨tm, hp'⟩ = some x ∧ s.bd ⟨tm, hp'⟩ = s.bd ⟨tm, hp⟩ := by
  unfold Shape.prj at h ⊢
  dsimp only at h ⊢
  cases hb : s.Gb ⟨tm, hp⟩ (s.bd ⟨tm, hp⟩) && Nat.beq tm.length s.n
  · rw [hb] at h; cases h
  · rw [hb] at h
    obtain ⟨h1, h2⟩ := bC h
    have e : s.bd ⟨tm, hp'⟩ = s.bd ⟨tm, hp⟩ := jd hg (m4 h2)
    have e2 : s.Gb ⟨tm, hp'⟩ (s.bd ⟨tm, hp⟩) = s.Gb ⟨tm, hp⟩ (s.bd ⟨tm, hp⟩) := by
      unfold Shape.Gb
      rw [hfx]
      rfl
    refine ⟨?_, e⟩
    rw [e, e2, hb, cond_true, r6 hg h1, oR hg h2]
    rfl
theorem Ig {c : Nat} (h : hp c ≠ none) : YD hp' c = YD hp c := by
  unfold YD
  cases hq : hp c with
  | none => exact absurd hq h
  | some ch => rw [hg.kk _ _ hq]
theorem uo {bd : Bd} {fixed : Nat} : ∀ {l : List (Nat × CSh)}, (∀ q ∈ l, ∀ c, cX bd q.1 = some (some c) → hp c ≠ none) → cR bd hp' fixed l = cR bd hp fixed l
  | [], _ => rfl
  | c :: r, h => by
    have ih := uo (bd := bd) (fixed := fixed) (l := r) fun q hq => h q (List.mem_cons_of_mem _ hq)
    simp only [cR, ih]
    cases Nat.blt c.1 fixed
    · simp only [cond_false]
      split
      · rename_i o ho
        rw [Ig hg (h c (by simp) o ho)]
      · rfl
    · rfl
theorem amj {S : av} {pre : S.T → Bool} {F : S.T → OT S.Y} {args : List SV} {out : Out} (h : ((S.aH pre F).f d args hp).run = some out) : ((S.aH pre F).f d args hp').run = some out := by
  simp only [av.aH] at h ⊢
  split at h
  · cases h
  · rename_i x hx
    obtain ⟨e1, e2⟩ := afw hg (s := S.inp) rfl hx
    rw [e1]
    simp only
    rw [e2]
    obtain ⟨h1, h2⟩ := OT.aE h
    rw [h1]
    obtain ⟨oy, h3, h4⟩ := OT.run_bind h2
    have hold : ∀ q ∈ S.chunks, ∀ c, cX (S.inp.bd ⟨args, hp⟩) q.1 = some (some c) → hp c ≠ none := by
      have hx' := hx
      unfold Shape.prj at hx'
      dsimp only at hx'
      cases hb : S.inp.Gb ⟨args, hp⟩ (S.inp.bd ⟨args, hp⟩) && Nat.beq args.length S.inp.n
      · rw [hb] at hx'; cases hx'
      · rw [hb] at hx'
        obtain ⟨_, h2⟩ := bC hx'
        exact m4 h2
    have hbok : ∀ p ∈ S.inp.bd ⟨args, hp⟩, ∃ q ∈ S.chunks, q.1 = p.1 := by
      have hx' := hx
      unfold Shape.prj at hx'
      dsimp only at hx'
      cases hb : S.inp.Gb ⟨args, hp⟩ (S.inp.bd ⟨args, hp⟩) && Nat.beq args.length S.inp.n
      · rw [hb] at hx'; cases hx'
      · rw [Bool.and_eq_true] at hb
        have := hb.1
        unfold Shape.Gb at this
        simp only [Bool.and_eq_true, List.all_eq_true, List.any_eq_true] at this
        intro p hp
        obtain ⟨q, hq, he⟩ := this.1.2 p hp
        exact ⟨q, hq, Nat.eq_of_beq_eq_true he⟩
    have hepN : ∀ n c, cX (S.inp.bd ⟨args, hp⟩) n = some (some c) → YD hp' c = YD hp c := fun n c hc => by
      obtain ⟨q, hq, he⟩ := hbok _ (jx hc)
      exact Ig hg (hold q hq c (by rw [he]; exact hc))
    unfold av.emit at h4
    dsimp only at h4
    obtain ⟨hend, h5⟩ := OT.aE h4
    -- the names
    have hfr : fresh hp' d = fresh hp d := ij hg
    have hnm : ∀ n, S.fixed ≤ n ∨ (∃ c, cX (S.inp.bd ⟨args, hp⟩) n = some (some c)) → S.nm (S.inp.bd ⟨args, hp⟩) hp' (fresh hp d) n = S.nm (S.inp.bd ⟨args, hp⟩) hp (fresh hp d) n := fun n hn => by
      unfold av.nm
      cases hb : Nat.blt n S.fixed
      · rfl
      · rcases hn with hn | ⟨c, hn⟩
        · have := cL hb; omega
        · simp only [cond_true, nameOf, hn, hepN n c hn]
    have hnmall : S.nm (S.inp.bd ⟨args, hp⟩) hp' (fresh hp d) = S.nm (S.inp.bd ⟨args, hp⟩) hp (fresh hp d) := by
      funext n
      rcases Nat.lt_or_ge n S.fixed with hn | hn
      · refine hnm n (.inr ?_)
        have he := hend
        unfold av.tu at he
        simp only [Bool.and_eq_true, List.all_eq_true] at he
        have h6 := (he.2.1 n (by simpa using hn)).1
        split at h6
        · rename_i c hc; exact ⟨c, hc⟩
        · cases h6
      · exact hnm n (.inl hn)
    have hend' : S.tu (S.inp.bd ⟨args, hp⟩) hp' (fresh hp d) oy.1 = true := by
      have he := hend
      unfold av.tu at he ⊢
      simp only [Bool.and_eq_true] at he ⊢
      refine ⟨he.1, he.2.1, he.2.2.1, ?_⟩
      have h6 := he.2.2.2
      simp only [List.all_eq_true, Bool.and_eq_true, Bool.or_eq_true] at h6 ⊢
      intro q hq
      refine ⟨(h6 q hq).1, (h6 q hq).2.imp_right fun h7 => ⟨h7.1, ?_⟩⟩
      have h8 := h7.2
      have hlt := cL h7.1
      cases hz : hp (fresh hp d + (q.1 - S.fixed)) with
      | some ch => rw [hz] at h8; cases h8
      | none =>
        rw [hg.free _ ?_ hz]
        · rfl
        · obtain ⟨k, hk1, hk2⟩ : ∃ k, k ≤ 4000 ∧ fresh hp d = (d + 1) * 4096 + k := by
            have : ∀ (n k : Nat), n + k ≤ 4000 → ∃ j, j ≤ 4000 ∧ dQ hp d n k = (d + 1) * 4096 + j := by
              intro n
              induction n with
              | zero => intro k hk; exact ⟨k, by omega, rfl⟩
              | succ n ih =>
                intro k hk
                simp only [dQ]
                split
                · exact ⟨k, by omega, rfl⟩
                · exact ih (k + 1) (by omega)
            exact this 4000 0 (by omega)
          rw [hk2]
          unfold jq
          omega
    have hem : (S.emit (S.inp.bd ⟨args, hp⟩) d hp' oy.1 oy.2).run = some out := by
      unfold av.emit
      dsimp only
      rw [hfr, hend', hnmall, uo hg hold]
      exact h5
    have hbind : ∀ {α β : Type} (t : OT α) (f : α → OT β) (a : α) (b : β), t.run = some a → (f a).run = some b → (t.bind f).run = some b := by
      intro α β t f a b h1 h2
      induction t with
      | ok a' => cases h1; exact h2
      | br c u v hu hv =>
        cases c
        · exact hv h1
        · exact hu h1
      | fail => cases h1
    exact hbind (F x) _ oy out h3 hem
end
theorem aB {S : av} {pre : S.T → Bool} {F : S.T → OT S.Y} : aK (S.aH pre F) := fun _ _ _ _ _ hg h => amj hg h
end Sx
end Go.Proofs.YtohjofabochgfaaGreat

namespace Go.Proofs.YtohjofabochgfaaGreat
namespace Sx
open Go
def OT.wpR {α : Type} (t : OT α) (K : α → Prop) : Prop :=
  OT.rec (motive := fun _ => Prop) (fun a => K a) (fun b _ _ x y => Bool.rec (motive := fun _ => Prop) y x b) False t
theorem OT.acs {α : Type} (t : OT α) (K : α → Prop) : t.wpR K = t.wp K := by
  induction t with
  | ok b => rfl
  | br b x y hx hy =>
    cases b
    · exact hy
    · exact hx
  | fail => rfl
theorem OT.B2 {α : Type} {t : OT α} {a : α} {K : α → Prop} (h : t.run = some a) (hk : K a) : t.wp K := by
  induction t with
  | ok b => cases h; exact hk
  | br b x y hx hy =>
    cases b
    · exact hy h
    · exact hx h
  | fail => cases h
def ao (fn : Func) : Code := fn.body.getD .skip
abbrev aP := Sigma fun p : SE × Shape => p.2.T
def cQ (sh : Shape) (xs : SE → Option Shape) (Q : Sum sh.T aP → Prop) (e : SE) (st : St) : Prop := match e with
  | .normal => sh.on st fun s => Q (.inl s)
  | e => match xs e with
    | none => False
    | some s => s.on st fun x => Q (.inr ⟨(e, s), x⟩)
def aq {σ ε : Type} (T : σ → OT (Sum σ ε)) : Nat → σ → Option ε
  | 0, _ => none
  | n + 1, s => match (T s).run with
    | some (.inl s') => aq T n s'
    | some (.inr e) => some e
    | none => none
def di (sh : Shape) (id : Nat) (ok : sh.T → Bool) (f : sh.T → OT aP) (st : St) (K : SE → St → Prop) : Prop :=
  sh.on st fun s => cond (ok s) ((f s).wp fun e => K (ahh id e.1.1) (e.1.2.inj e.2)) False
section
variable {P : Program} {te : TE} {Φ : Env} (hte : lv P te) (hΦ : aV P Φ) (hany : aZ P te Φ)
include hte hΦ hany
theorem al4 {R₀ : Ctx} {sh : Shape} (h0 : Small R₀ sh.fixed) {xs : SE → Option Shape} (hxs : ∀ e s, xs e = some s → Small R₀ s.fixed) (hpan : ∀ v, xs (.pan v) = none) {Λ : Lam} {body : Code} (hΛ : EY P R₀ Λ body)
    {id n : Nat} {T : sh.T → OT (Sum sh.T aP)} (hT : ∀ s Q, wps te Φ Λ n body (sh.inj s) (cQ sh xs Q) = (T s).wpR Q) :
    LV P R₀ (.block id (.loop body)) fun st K => sh.on st fun s => ∃ m e, aq T m s = some e ∧ K (ahh id e.1.1) (e.1.2.inj e.2) := by
  intro R st a w K Q hx hst hl hK
  obtain ⟨s, R', ⟨m, e, hr, hk⟩, hx', hst'⟩ := Shape.J3 h0 hx hst hl
  refine wp_block (zR ?_)
  clear hl hst hx
  induction m generalizing s R' a w with
  | zero => cases hr
  | succ m ih =>
    simp only [aq] at hr
    cases ht : (T s).run with
    | none => rw [ht] at hr; cases hr
    | some o =>
      rw [ht] at hr
      have hw : wps te Φ Λ n body (sh.inj s) (cQ sh xs (fun z => z = o)) := by
        rw [hT, OT.acs]; exact OT.B2 ht rfl
      refine DN (L0 (R₀ := R₀) hte hΦ hany hΛ hx' hst' hw ⟨?_, ?_, ?_, ?_⟩)
      · intro R1 st1 a1 w1 hx1 hst1 hk1
        obtain ⟨s', R2, g1, g4, g5⟩ := Shape.J3 h0 hx1 hst1 (hk1 : sh.on st1 _)
        subst g1
        exact ih a1 w1 s' R2 hr g4 g5
      · intro R1 st1 a1 w1 hx1 hst1 hk1
        simp only [cQ] at hk1
        split at hk1
        · exact hk1.elim
        · rename_i sh' he
          obtain ⟨x, R2, g1, g2, g3⟩ := Shape.J3 (hxs _ sh' he) hx1 hst1 hk1
          subst g1
          cases hr
          exact hK.ret R2 _ a1 w1 g2 g3 hk
      · intro R1 st1 a1 w1 j hx1 hst1 hk1
        simp only [cQ] at hk1
        split at hk1
        · exact hk1.elim
        · rename_i sh' he
          obtain ⟨x, R2, g1, g2, g3⟩ := Shape.J3 (hxs _ sh' he) hx1 hst1 hk1
          subst g1
          cases hr
          simp only [ahh] at hk
          simp only [Exit.inBlock]
          by_cases e : j = id
          · subst e
            rw [Nat.beq_refl, cond_true] at hk
            simp only [if_true]
            exact hK.normal R2 _ a1 w1 g2 g3 hk
          · have hb : Nat.beq j id = false := by
              cases hq : Nat.beq j id
              · rfl
              · exact absurd (Nat.eq_of_beq_eq_true hq) e
            rw [hb, cond_false] at hk
            simp only [e, if_false]
            exact hK.exit R2 _ a1 w1 j g2 g3 hk
      · intro R1 st1 a1 w1 sv v hx1 hst1 hv hk1
        simp only [cQ, hpan] at hk1
theorem bt {R₀ : Ctx} {sh : Shape} (h0 : Small R₀ sh.fixed) {xs : SE → Option Shape} (hxs : ∀ e s, xs e = some s → Small R₀ s.fixed) (hpan : ∀ v, xs (.pan v) = none) {Λ : Lam} {body : Code} (hΛ : EY P R₀ Λ body)
    {id n : Nat} {T : sh.T → OT (Sum sh.T aP)} (hT : ∀ s Q, wps te Φ Λ n body (sh.inj s) (cQ sh xs Q) = (T s).wpR Q) {ok : sh.T → Bool} {f : sh.T → OT aP}
    (hf : ∀ s, ok s = true → ∃ m e, aq T m s = some e ∧ (f s).run = some e) : LV P R₀ (.block id (.loop body)) (di sh id ok f) := by
  intro R st a w K Q hx hst hl hK
  refine al4 hte hΦ hany h0 hxs hpan hΛ hT (id := id) R st a w K Q hx hst ?_ hK
  unfold di at hl
  unfold Shape.on at hl ⊢
  split at hl
  · rename_i s hs
    cases ho : ok s
    · rw [ho] at hl; exact hl.elim
    · rw [ho] at hl
      obtain ⟨m, e, h1, h2⟩ := hf s ho
      obtain ⟨e', h3, h4⟩ := OT.Ux hl
      rw [h2] at h3
      cases h3
      rw [hs]
      exact ⟨m, e, h1, h4⟩
  · exact hl.elim
def fnK (S : av) (sel : SV → Option az) (Q : S.Y → Prop) (v : SV) (hp : Hp) : Prop := match sel v with
  | some o => match (o.shape S.fixed).prj ⟨aek o.rs.length v, hp⟩ with
    | some y => Q ⟨o, y⟩
    | none => False
  | none => False
def arC (S : av) : List az → (S.Y → Prop) → SV → Hp → Prop
  | [], _, _, _ => False
  | o :: r, Q, v, hp => match (o.shape S.fixed).prj ⟨aek o.rs.length v, hp⟩ with
    | some y => Q ⟨o, y⟩
    | none => arC S r Q v hp
omit hte hΦ hany in
theorem OU {S : av} {Q : S.Y → Prop} {v : SV} {hp : Hp} : ∀ {outs : List az}, arC S outs Q v hp → ∃ o ∈ outs, ∃ y, (o.shape S.fixed).prj ⟨aek o.rs.length v, hp⟩ = some y ∧ Q ⟨o, y⟩
  | [], h => h.elim
  | o :: r, h => by
    simp only [arC] at h
    split at h
    · rename_i y hy
      exact ⟨o, List.mem_cons_self .., y, hy, h⟩
    · obtain ⟨o', h1, h2⟩ := OU h
      exact ⟨o', List.mem_cons_of_mem _ h1, h2⟩
theorem aC {f : FuncId} {fn : Func} {c : Code} (hf : P.funcs[f]? = some fn) (hb : fn.body = some c) (hname : (fn.name == "runtime.NumGoroutine") = false) {S : av} {k : Nat} (hk : S.chunks.all (fun c => Nat.blt c.1 k && !c.2.vv) = true) {Λ : Lam}
    (hΛ : ∀ R, Small R k → EY P R Λ c) {n : Nat} {sel : SV → Option az} (hsel : ∀ v o, sel v = some o → o.pan = false) {pre : S.T → Bool} {F T : S.T → OT S.Y}
    (h : ∀ x Q, wpf te Φ Λ n fn (S.inp.inj x).tm (S.inp.inj x).hp (fnK S sel Q) (fun _ _ => False) = (T x).wpR Q)
    (hF : ∀ x oy, pre x = true → (F x).run = some oy → (T x).run = some oy) : ac P f (S.aH pre F) := by
  refine asY hte hΦ hany hf hb hname hk hΛ (n := n) fun x oy hp hr => ⟨fnK S sel (fun z => z = oy), fun _ _ => False, ?_, fun v hp hq => ?_, fun _ _ hq => hq.elim⟩
  · rw [h, OT.acs]; exact OT.B2 (hF x oy hp hr) rfl
  · unfold fnK at hq
    split at hq
    · rename_i o ho
      split at hq
      · rename_i y hy
        subst hq
        exact ⟨hsel v o ho, hy⟩
      · exact hq.elim
    · exact hq.elim
theorem ami {f : FuncId} {fn : Func} {c : Code} (hf : P.funcs[f]? = some fn) (hb : fn.body = some c) (hname : (fn.name == "runtime.NumGoroutine") = false) {S : av} {k : Nat} (hk : S.chunks.all (fun c => Nat.blt c.1 k && !c.2.vv) = true) {Λ : Lam}
    (hΛ : ∀ R, Small R k → EY P R Λ c) {n : Nat} {outs : List az} (hsel : (outs.all fun o => !o.pan) = true) {pre : S.T → Bool} {F T : S.T → OT S.Y}
    (h : ∀ x Q, wpf te Φ Λ n fn (S.inp.inj x).tm (S.inp.inj x).hp (arC S outs Q) (fun _ _ => False) = (T x).wpR Q)
    (hF : ∀ x oy, pre x = true → (F x).run = some oy → (T x).run = some oy) : ac P f (S.aH pre F) := by
  refine asY hte hΦ hany hf hb hname hk hΛ (n := n) fun x oy hp hr => ⟨arC S outs (fun z => z = oy), fun _ _ => False, ?_, fun v hp hq => ?_, fun _ _ hq => hq.elim⟩
  · rw [h, OT.acs]; exact OT.B2 (hF x oy hp hr) rfl
  · obtain ⟨o, ho, y, hy, hQ⟩ := OU hq
    subst hQ
    exact ⟨by have := List.all_eq_true.1 hsel o ho; simpa using this, hy⟩
end
end Sx
end Go.Proofs.YtohjofabochgfaaGreat

namespace Go.Proofs.YtohjofabochgfaaGreat
namespace Sx
open Go
def zeroCells : Ty → List Value
  | .bool => [.bool false]
  | .u64 => [fX 0]
  | .u8 => [vu8 0]
  | .int => [.int .i64 0]
  | .str => [.string ⟨#[]⟩]
  | .elem => [fX 0, fX 0, fX 0, fX 0]
  | .prod a b => zeroCells a ++ zeroCells b
  | .arr n t => (List.replicate n (zeroCells t)).flatten
  | .list _ => [.slice none 0 0]
theorem cq : ∀ t : Ty, (zeroCells t).length = t.size
  | .bool => rfl
  | .u64 => rfl
  | .u8 => rfl
  | .int => rfl
  | .str => rfl
  | .elem => rfl
  | .prod a b => by simp only [zeroCells, List.length_append, cq a, cq b, Ty.size]
  | .arr n t => by simp [zeroCells, cq t, Ty.size]
  | .list _ => rfl
theorem Ek {c : List Value} {m : Nat} (hc : c.length = m) : ∀ (n i : Nat), i < n → seg (List.replicate n c).flatten (i * m) m = c
  | 0, _, h => by omega
  | n + 1, 0, _ => by
    simp only [seg, List.replicate_succ, List.flatten_cons, Nat.zero_mul, List.drop_zero, List.take_append, hc, Nat.sub_self, List.take_zero, List.append_nil]
    rw [← hc, List.take_length]
  | n + 1, i + 1, h => by
    have ih := Ek hc n i (by omega)
    simp only [seg] at ih ⊢
    rw [List.replicate_succ, List.flatten_cons]
    have : (i + 1) * m = c.length + i * m := by rw [hc, Nat.add_mul]; omega
    rw [this, List.drop_append]
    simp only [Nat.add_sub_cancel_left]
    rw [List.drop_eq_nil_of_le (by omega), List.nil_append, ih]
theorem Bv {F : Nat → Option Obj} : ∀ t : Ty, Rep F t t.d (zeroCells t)
  | .bool => rfl
  | .u64 => rfl
  | .u8 => rfl
  | .int => ⟨rfl, by decide⟩
  | .str => ⟨rfl, by simp [Ty.d]⟩
  | .elem => rfl
  | .prod a b => by
    refine ⟨by simp only [zeroCells, List.length_append, cq], ?_, ?_⟩
    · have : (zeroCells (.prod a b)).take a.size = zeroCells a := by
        simp only [zeroCells]
        rw [← cq a, List.take_left]
      rw [this]; exact Bv a
    · have : (zeroCells (.prod a b)).drop a.size = zeroCells b := by
        simp only [zeroCells]
        rw [← cq a, List.drop_left]
      rw [this]; exact Bv b
  | .arr n t => by
    refine ⟨cq _, by simp [Ty.d], fun i hi => ?_⟩
    have h1 : (Ty.d (.arr n t)).getD i t.d = t.d := by
      simp [Ty.d, List.getD_eq_getElem?_getD, List.getElem?_replicate, hi]
    rw [h1]
    simp only [zeroCells]
    rw [Ek (cq t) n i hi]
    exact Bv t
  | .list t => ⟨by simp [Ty.d], none, 0, rfl, by simp [Ty.d], .inl rfl⟩
def as7 (P : Program) (T : TypeId) (d : TypeDesc) : TD → Bool
  | .struct fs => match d with
    | .struct fields => decide (fields.toList.map (fun f => (f.offset, f.type)) = fs) && fields.toList.all (fun f => !decide (f.name = "_")) && !P.stoodInHeld T &&
        (fields.toList.mapM (fun f => (P.info? f.type).map fun i => (f.offset, i.size))).isSome
    | _ => false
  | .array n e => match d with
    | .array n' e' => Nat.beq n n' && Nat.beq e e'
    | _ => false
  | .slice e => match d with
    | .slice e' => Nat.beq e e'
    | _ => false
  | .int k => match d with
    | .int k' => decide (k' = k)
    | _ => false
  | .bool => match d with
    | .bool => true
    | _ => false
  | .str => match d with
    | .string => true
    | _ => false
  | .ptr ms => match d with
    | .pointer _ => match P.info? T with
      | some i => ms.all fun nf => match i.methods.find? (fun q => q.name == nf.1) with
        | some m => m.path.toList.isEmpty && (match m.func with
          | some (f, b) => b && Nat.beq f nf.2
          | none => false)
        | none => false
      | none => false
    | _ => false
  | .iface => match d with
    | .interface _ => true
    | _ => false
  | .other => match d with
    | .struct _ => false
    | .array .. => false
    | _ => true
theorem ag {P : Program} {T : TypeId} {ti : TI} (h1 : (P.info? T).isSome = true) (h4 : ((P.info? T).get h1).zero.isSome = true) (h10 : (P.underlying T).isSome = true)
    (hs : Nat.beq ((P.info? T).get h1).size ti.size = true) (hb : Nat.beq ((P.info? T).get h1).bytes ti.bytes = true)
    (hz : (((P.info? T).get h1).zero.get h4).cells.toList.map Dd = ti.zero) (hc : ((((P.info? T).get h1).zero.get h4).cells.toList.all Value.oneCell') = true)
    (hn : Nat.beq (((P.info? T).get h1).zero.get h4).cells.size ti.size = true) (h8 : Nat.ble ti.size 16777216 = true) (h9 : (ti.desc.agg || Nat.beq ti.size 1) = true)
    (hd : as7 P T ((P.underlying T).get h10) ti.desc = true)
    (ht : match ti.ty with
      | none => True
      | some t => Nat.beq t.size ti.size = true ∧ (((P.info? T).get h1).zero.get h4).cells.toList = zeroCells t ∧ (!ti.desc.agg || !P.eqGuardType P.depth T) = true) : aX P T ti := by
  have e1 : P.info? T = some ((P.info? T).get h1) := (Option.some_get h1).symm
  have e4 : ((P.info? T).get h1).zero = some (((P.info? T).get h1).zero.get h4) := (Option.some_get h4).symm
  refine ⟨⟨_, _, e1, Nat.eq_of_beq_eq_true hs, Nat.eq_of_beq_eq_true hb, e4, hz, Nat.eq_of_beq_eq_true hn, fun u hu => List.all_eq_true.1 hc u hu⟩, Nat.le_of_ble_eq_true h8, fun ha => ?_, ⟨_, (Option.some_get h10).symm, ?_⟩, fun t hty => ?_⟩
  · rw [ha, Bool.false_or] at h9
    exact Nat.eq_of_beq_eq_true h9
  · generalize (P.underlying T).get h10 = d at hd
    cases hdd : ti.desc <;> rw [hdd] at hd <;> simp only [as7] at hd <;> (try dsimp only)
    case struct fs =>
      split at hd
      · rename_i fields
        simp only [Bool.and_eq_true, decide_eq_true_eq, List.all_eq_true, Bool.not_eq_true', decide_eq_false_iff_not] at hd
        exact ⟨fields, rfl, hd.1.1.1, hd.1.1.2, hd.1.2, hd.2⟩
      · cases hd
    case array n e =>
      split at hd
      · rw [Bool.and_eq_true] at hd
        rw [Nat.eq_of_beq_eq_true hd.1, Nat.eq_of_beq_eq_true hd.2]
      · cases hd
    case slice e =>
      split at hd
      · rw [Nat.eq_of_beq_eq_true hd]
      · cases hd
    case int k =>
      split at hd
      · rw [of_decide_eq_true hd]
      · cases hd
    case bool =>
      split at hd
      · rfl
      · cases hd
    case str =>
      split at hd
      · rfl
      · cases hd
    case ptr ms =>
      split at hd
      · refine ⟨⟨_, rfl⟩, ?_⟩
        split at hd
        · rename_i i hi
          intro nf hnf
          have hq := List.all_eq_true.1 hd nf hnf
          split at hq
          · rename_i m hm
            rw [Bool.and_eq_true] at hq
            refine ⟨i, m, hi, hm, ?_, ?_⟩
            · apply Array.ext'
              simpa using hq.1
            · have h2 := hq.2
              split at h2
              · rename_i f b hf
                rw [Bool.and_eq_true] at h2
                rw [hf, Nat.eq_of_beq_eq_true h2.2, h2.1]
              · cases h2
          · cases hq
        · cases hd
      · cases hd
    case iface =>
      split at hd
      · exact ⟨_, rfl⟩
      · cases hd
    case other =>
      cases d <;> first | trivial | (cases hd; done)
  · rw [hty] at ht
    obtain ⟨t1, t2, t3⟩ := ht
    refine ⟨Nat.eq_of_beq_eq_true t1, fun F z hz' => ?_, fun ha => ?_⟩
    · rw [e1] at hz'
      simp only [Option.bind_some] at hz'
      rw [e4] at hz'
      cases hz'
      rw [t2]
      exact Bv t
    · rw [ha, Bool.not_true, Bool.false_or, Bool.not_eq_true'] at t3
      exact t3
def ar5 : TE := fun _ => none
def aj (T : TypeId) (ti : TI) (te : TE) : TE := fun x => cond (Nat.beq x T) (some ti) (te x)
theorem akB {P : Program} : lv P ar5 := fun _ _ h => by cases h
theorem ab {P : Program} {T : TypeId} {ti : TI} {te : TE} (h : aX P T ti) (ht : lv P te) : lv P (aj T ti te) := fun x t hx => by
  unfold aj at hx
  cases hb : Nat.beq x T
  · rw [hb] at hx; exact ht x t hx
  · rw [hb] at hx
    cases hx
    rw [Nat.eq_of_beq_eq_true hb]
    exact h
def ahk : Env := fun _ => none
def aA (f : FuncId) (s : cG) (Φ : Env) : Env := fun x => cond (Nat.beq x f) (some s) (Φ x)
theorem ahj {P : Program} : aV P ahk := fun _ _ h => by cases h
theorem ai {P : Program} {f : FuncId} {s : cG} {Φ : Env} (h : ac P f s) (hΦ : aV P Φ) : aV P (aA f s Φ) := fun x t hx => by
  unfold aA at hx
  cases hb : Nat.beq x f
  · rw [hb] at hx; exact hΦ x t hx
  · rw [hb] at hx
    cases hx
    rw [Nat.eq_of_beq_eq_true hb]
    exact h
theorem Ti : ax ahk := fun _ _ h => by cases h
theorem ae {f : FuncId} {s : cG} {Φ : Env} (h : aK s) (hΦ : ax Φ) : ax (aA f s Φ) := fun x t hx => by
  unfold aA at hx
  cases hb : Nat.beq x f
  · rw [hb] at hx; exact hΦ x t hx
  · rw [hb] at hx
    cases hx
    exact h
end Sx
end Go.Proofs.YtohjofabochgfaaGreat

namespace Go.Proofs.YtohjofabochgfaaGreat
namespace Sx
open Go
def jr (l : List (Nat × Shape)) (r : Option Shape) : SE → Option Shape
  | .exit n => (l.find? fun p => Nat.beq p.1 n).map (·.2)
  | .ret => r
  | _ => none
theorem aG {l : List (Nat × Shape)} {r : Option Shape} {k : Nat} {R : Ctx} (hl : (l.all fun p => Nat.beq p.2.fixed k) = true) (hr : (r.all fun s => Nat.beq s.fixed k) = true) (hR : Small R k) :
    ∀ e s, jr l r e = some s → Small R s.fixed := by
  intro e s h
  cases e with
  | exit n =>
    simp only [jr] at h
    cases hf : l.find? fun p => Nat.beq p.1 n with
    | none => rw [hf] at h; cases h
    | some p =>
      rw [hf] at h
      cases h
      rw [Nat.eq_of_beq_eq_true (List.all_eq_true.1 hl p (List.mem_of_find?_eq_some hf))]
      exact hR
  | ret =>
    simp only [jr] at h
    subst h
    have e : s.fixed = k := Nat.eq_of_beq_eq_true (by simpa using hr)
    rw [e]
    exact hR
  | normal => cases h
  | pan v => cases h
theorem aW {l : List (Nat × Shape)} {r : Option Shape} (v : SV) : jr l r (.pan v) = none := rfl
section
variable {σ ε : Type} {T : σ → OT (Sum σ ε)}
theorem aM {s s' : σ} {m : Nat} {e : ε} (h : (T s).run = some (.inl s')) (h2 : aq T m s' = some e) : aq T (m + 1) s = some e := by
  simp only [aq, h]; exact h2
theorem aL {s : σ} {e : ε} (h : (T s).run = some (.inr e)) : aq T 1 s = some e := by
  simp only [aq, h]
theorem DM (st : Nat → σ) (n : Nat) {e : ε} (h : ∀ k, k < n → (T (st k)).run = some (.inl (st (k + 1)))) (hn : (T (st n)).run = some (.inr e)) : ∀ j k, k + j = n → aq T (j + 1) (st k) = some e
  | 0, k, hk => by
    have : k = n := by omega
    subst this
    exact aL hn
  | j + 1, k, hk => aM (h k (by omega)) (DM st n h hn j (k + 1) (by omega))
theorem SH (st : Nat → σ) (n : Nat) {e : ε} (h : ∀ k, k < n → (T (st k)).run = some (.inl (st (k + 1)))) (hn : (T (st n)).run = some (.inr e)) (k : Nat) (hk : k ≤ n) : ∃ m, aq T m (st k) = some e :=
  ⟨n - k + 1, DM st n h hn (n - k) k (by omega)⟩
def upto {β : Type} (f : Nat → β → β) (b : β) : Nat → β
  | 0 => b
  | k + 1 => f k (upto f b k)
theorem bP {β : Type} (mk : Nat → β → σ) (step : Nat → β → β) (fin : β → ε) (n : Nat) (b0 : β) (P : Nat → β → Prop) (h0 : P 0 b0)
    (hs : ∀ k b, k < n → P k b → (T (mk k b)).run = some (.inl (mk (k + 1) (step k b))) ∧ P (k + 1) (step k b))
    (he : ∀ b, P n b → (T (mk n b)).run = some (.inr (fin b))) : (∃ m, aq T m (mk 0 b0) = some (fin (upto step b0 n))) ∧ P n (upto step b0 n) := by
  have hP : ∀ k, k ≤ n → P k (upto step b0 k) := by
    intro k
    induction k with
    | zero => exact fun _ => h0
    | succ k ih => exact fun hk => (hs k _ (by omega) (ih (by omega))).2
  refine ⟨?_, hP n (Nat.le_refl _)⟩
  exact SH (fun k => mk k (upto step b0 k)) n (fun k hk => (hs k _ hk (hP k (by omega))).1) (he _ (hP n (Nat.le_refl _))) 0 (Nat.zero_le _)
end
def tab {α : Type} (x : List α) (n : Nat) (d : α) : List α := (List.range n).map fun i => x.getD i d
def lay {α : Type} (x y : List α) (n : Nat) (d : α) : List α := (List.range n).foldl (fun a i => a.set i (y.getD i d)) x
theorem yI {α : Type} {x y : List α} {d : α} : ∀ n, (lay x y n d).length = x.length
  | 0 => rfl
  | n + 1 => by
    have := yI (x := x) (y := y) (d := d) n
    simp only [lay, List.range_succ, List.foldl_append, List.foldl_cons, List.foldl_nil, List.length_set] at this ⊢
    exact this
theorem agk {α : Type} {x y : List α} {d : α} : ∀ n i, n ≤ x.length → i < x.length → (lay x y n d)[i]? = if i < n then some (y.getD i d) else x[i]?
  | 0, i, _, _ => by simp [lay]
  | n + 1, i, h, hi => by
    have ih := agk (x := x) (y := y) (d := d) n i (by omega) hi
    have hl := yI (x := x) (y := y) (d := d) n
    simp only [lay] at ih hl
    simp only [lay, List.range_succ, List.foldl_append, List.foldl_cons, List.foldl_nil]
    by_cases e : n = i
    · subst e
      rw [List.getElem?_set_self (by omega), if_pos (by omega)]
    · rw [List.getElem?_set_ne e, ih]
      by_cases h1 : i < n
      · rw [if_pos h1, if_pos (by omega)]
      · rw [if_neg h1, if_neg (by omega)]
theorem agl {α : Type} {x y : List α} {n : Nat} {d : α} (hx : x.length = n) (hy : y.length = n) : lay x y n d = y := by
  apply List.ext_getElem?
  intro i
  by_cases hi : i < n
  · rw [agk n i (by omega) (by omega), if_pos hi, List.getD_eq_getElem?_getD, List.getElem?_eq_getElem (by omega)]
    rfl
  · rw [List.getElem?_eq_none (by rw [yI]; omega), List.getElem?_eq_none (by omega)]
theorem OT.jG {α : Type} {a : α} : (OT.ok a).run = some a := rfl
theorem OT.ap {α : Type} {b : Bool} {x y : OT α} (h : b = true) : (OT.br b x y).run = x.run := by rw [h]; rfl
theorem OT.aw {α : Type} {b : Bool} {x y : OT α} (h : b = false) : (OT.br b x y).run = y.run := by rw [h]; rfl
def gd {α : Type} : List Bool → OT α → OT α
  | [], x => x
  | b :: r, x => .br b (gd r x) .fail
theorem al {α : Type} {x : OT α} : ∀ {bs : List Bool}, bs.all (fun b => b) = true → (gd bs x).run = x.run
  | [], _ => rfl
  | b :: r, h => by
    rw [List.all_cons, Bool.and_eq_true] at h
    exact (OT.ap h.1).trans (al h.2)
theorem bE {n : Int} (h : -9223372036854775808 ≤ n ∧ n ≤ 9223372036854775807) : inR n = true := by simp [inR, h.1, h.2]
theorem bD {k : Int} {n : Nat} (h : 0 ≤ k ∧ k < (n : Int)) : inB k n = true := by simp [inB, h.1, h.2]
end Sx
end Go.Proofs.YtohjofabochgfaaGreat

namespace Go.Proofs.YtohjofabochgfaaGreat
namespace Sx
open Go Go.RowKit
def gf (w : World) : Ctx := ⟨fun b => w.heap[b]?, ⟨fun _ => none, w⟩, fun _ => none, alN⟩
theorem akE (w : World) : dj (gf w) w :=
  ⟨fun _ _ h => h, (fun _ _ h => by cases h), (fun c ch h => by cases h), (fun c c' ch ch' L L' h => by cases h), fun _ _ _ => rfl, ⟨rfl, rfl, rfl⟩⟩
theorem QJ {w w' : World} {R' : Ctx} {u : List (Nat × Ch)} (h : eH (gf w) R' w' u) : Below w.heap.size w w' := by
  have he := h.mem.env
  rw [h.ext.U] at he
  have hb : ∀ k, k < w.heap.size → w'.heap[k]? = w.heap[k]? := fun k hk => by
    have h1 : w.heap[k]? = some w.heap[k] := by simp [hk]
    rw [h.mem.F k _ (h.ext.F k _ h1), h1]
  refine ⟨he.1, he.2.2, he.2.1, ?_, hb⟩
  rcases Nat.lt_or_ge w'.heap.size w.heap.size with hl | hl
  · have := hb _ hl
    simp [hl] at this
  · exact hl
theorem agn {P : Program} {f : FuncId} {s : cG} (h : ac P f s) (hfn : ∃ fn, P.funcs[f]? = some fn ∧ (fn.name == "runtime.NumGoroutine") = false ∧ fn.body.isNone = false) {w : World} {args : List SV} {vs : List Value} {u : List (Nat × Ch)} (hr : SV.bQ (gf w) args vs)
    (ht : (s.f 0 args alN).run = some (.ret ⟨.bool true, u⟩)) : Calls P f vs.toArray w fun e w' => e = .returned (.bool true) ∧ Below w.heap.size w w' := by
  have hc : Calls P f vs.toArray w (Y9 (gf w) (.ret ⟨.bool true, u⟩)) := by
    rcases h.calls (gf w) w 0 args vs _ (akE w) hr ht with ⟨_, _, _, _, hc⟩ | ⟨v, w', hv, _⟩
    · exact hc
    · exfalso
      obtain ⟨fn, f1, f2, f3⟩ := hfn
      have f2' : ¬ fn.name = "runtime.NumGoroutine" := by simpa using f2
      have f3' : ¬ fn.body = none := fun e => by rw [e] at f3; simp at f3
      simp [callFunc, f1, f2', f3'] at hv
  refine hc.mono fun e w' hp => ?_
  obtain ⟨v, R', rfl, ha, hv⟩ := hp
  simp only [SV.rel] at hv
  subst hv
  exact ⟨rfl, QJ ha⟩
end Sx
end Go.Proofs.YtohjofabochgfaaGreat

namespace Go.Proofs.YtohjofabochgfaaGreat
namespace Sx
open Go Go.RowKit
def Mn (te : TE) (T : TypeId) (n : Nat) : Bool := match te T with
  | some ei => Nat.beq ei.size n
  | none => false
def yi (go : TypeId → Ty → Bool) (te : TE) : Nat → List (Nat × TypeId) → Ty → Bool
  | o, [(p, T)], y => Nat.beq o p && (Mn te T y.size && go T y)
  | o, (p, T) :: q :: r, .prod a b => Nat.beq o p && (Mn te T a.size && (go T a && yi go te (o + a.size) (q :: r) b))
  | _, _, _ => false
def vc (te : TE) : Nat → TypeId → Ty → Bool
  | 0, _, _ => false
  | n + 1, T, y => match te T with
    | none => false
    | some ti => match ti.desc, y with
      | .bool, .bool => true
      | .int .u64, .u64 => true
      | .int .u8, .u8 => true
      | .int .i64, .int => true
      | .str, .str => true
      | .array m e, .elem => (match te e with
        | some ei => (match ei.desc with | .int .u64 => true | _ => false) && Nat.beq ei.size 1
        | none => false) && (Nat.beq m 4 && Nat.beq ti.size 4)
      | .array m e, .arr k t => Nat.beq m k && (Mn te e t.size && (Nat.beq ti.size (k * t.size) && vc te n e t))
      | .slice e, .list t => (match te e with
        | some ei => Nat.beq ei.size t.size && (Nat.blt 0 ei.size && Nat.blt 0 ei.bytes)
        | none => false) && vc te n e t
      | .struct fs, y => Nat.beq ti.size y.size && yi (vc te n) te 0 fs y
      | _, _ => false
theorem DI {α β : Type} {f : α → Option β} : ∀ {l : List α} {ys : List β}, l.mapM f = some ys → ys.length = l.length ∧ ∀ (i : Nat) (h : i < l.length) (h' : i < ys.length), f l[i] = some ys[i]
  | [], ys, h => by
    simp only [List.mapM_nil, Option.pure_def, Option.some.injEq] at h
    subst h
    exact ⟨rfl, fun i hi => absurd hi (Nat.not_lt_zero _)⟩
  | x :: l, ys, h => by
    simp only [List.mapM_cons, Option.bind_eq_bind, Option.bind_eq_some_iff, Option.pure_def, Option.some.injEq] at h
    obtain ⟨y, h1, r, h2, rfl⟩ := h
    obtain ⟨h3, h4⟩ := DI h2
    refine ⟨by simp [h3], fun i hi hi' => ?_⟩
    cases i with
    | zero => exact h1
    | succ i => exact h4 i (by simpa using hi) (by simpa using hi')
theorem tt {α : Type} {d : α} {Q : Nat → α → Prop} : ∀ (n : Nat), (∀ i, i < n → ∃ x, Q i x) → ∃ l : List α, l.length = n ∧ ∀ i, i < n → Q i (l.getD i d)
  | 0, _ => ⟨[], rfl, fun i h => absurd h (Nat.not_lt_zero _)⟩
  | n + 1, h => by
    obtain ⟨l, h1, h2⟩ := tt n fun i hi => h i (by omega)
    obtain ⟨x, hx⟩ := h n (by omega)
    refine ⟨l ++ [x], by simp [h1], fun i hi => ?_⟩
    rcases Nat.lt_or_ge i n with hi' | hi'
    · have := h2 i hi'
      rwa [List.getD_eq_getElem?_getD, List.getElem?_append_left (by omega), ← List.getD_eq_getElem?_getD]
    · have : i = n := by omega
      subst this
      rw [List.getD_eq_getElem?_getD, List.getElem?_append_right (by omega), h1]
      simpa using hx
theorem La {w : World} {a : Addr} {n : Nat} {cs : List Value} (hn : 0 < n) (h : w.cells? 0 a n = some cs) :
    ∃ arr E fz, w.heap[a.block]? = some (.cells arr E fz) ∧ a.spot = none ∧ a.off + n ≤ arr.size ∧ cs = seg arr.toList a.off n := by
  unfold World.cells? at h
  rw [if_pos (Nat.zero_le _)] at h
  obtain ⟨h1, h2⟩ := DI h
  rw [List.length_range] at h1
  have hat : ∀ i (hi : i < n), w.cell? (a.add i) = some (cs[i]'(by omega)) := fun i hi => by
    have := h2 i (by simpa using hi) (by omega)
    simpa using this
  have h0 := hat 0 hn
  have e0 : a.add 0 = a := rfl
  rw [e0] at h0
  unfold World.cell? at h0
  split at h0
  · rename_i arr E fz hb
    split at h0
    · cases h0
    · rename_i hs
      have hs' : a.spot = none := by simpa using hs
      have hget : ∀ i (hi : i < n), arr[a.off + i]? = some (cs[i]'(by omega)) := fun i hi => by
        have := hat i hi
        unfold World.cell? Addr.add at this
        by_cases hi0 : i = 0
        · subst hi0
          simpa [hb, hs'] using this
        · rw [if_neg hi0] at this
          simpa [hb] using this
      have hle : a.off + n ≤ arr.size := by
        have := (Array.getElem?_eq_some_iff.1 (hget (n - 1) (by omega))).1
        omega
      refine ⟨arr, E, fz, hb, hs', hle, ?_⟩
      apply List.ext_getElem
      · rw [fa (by simpa using hle)]; exact h1
      · intro i hi hi'
        obtain ⟨hlt, he⟩ := Array.getElem?_eq_some_iff.1 (hget i (by omega))
        simp only [seg, List.getElem_take, List.getElem_drop, Array.getElem_toList]
        exact he.symm
  · cases h0
section
variable {H : Type} {enc : TypeId × Value → H} {P : Program} {te : TE} (hte : lv P te) {w : World} {sp : Nat → Bool}
abbrev KC (w : World) : Nat → Option Obj := fun b => w.heap[b]?
include hte
theorem im {T : TypeId} {ti : TI} (h : te T = some ti) : P.cellsOf T = ti.size := by
  obtain ⟨i, z, h1, h2, _⟩ := (hte T ti h).arx
  unfold Program.cellsOf
  rw [h1]
  exact h2
theorem abY {T : TypeId} {ti : TI} (h : te T = some ti) : P.bytesOf T = ti.bytes := by
  obtain ⟨i, z, h1, _, h2, _⟩ := (hte T ti h).arx
  unfold Program.bytesOf
  rw [h1]
  exact h2
omit hte in
theorem sD {T : TypeId} {n : Nat} (h : Mn te T n = true) : ∃ ti, te T = some ti ∧ ti.size = n := by
  unfold Mn at h
  split at h
  · rename_i ei he
    exact ⟨ei, he, Nat.eq_of_beq_eq_true h⟩
  · cases h
omit hte in
theorem lj {e : TypeId} : ∀ {l : List (DataW H)} {d : DataW H}, d ∈ l → ∀ n ∈ d.weights P e, n ∈ DataW.weightsAll P e l
  | x :: l, d, h, n, hn => by
    simp only [DataW.weightsAll, List.mem_append]
    rcases List.mem_cons.1 h with rfl | h
    · exact .inl hn
    · exact .inr (lj h n hn)
theorem H8 {go : TypeId → Ty → Bool} {fuel : Nat} {cs : List Value}
    (hgo : ∀ T y c d ps, go T y = true → c.length = y.size → DataW.trod enc P w 0 sp true fuel T c = some (d, ps) → (∀ n ∈ d.weights P T, n ≤ reachBytes) → ∃ x, Rep (KC w) y x c) :
    ∀ (fl : List Field) (o : Nat) (y : Ty) (xs : List (DataW H × List MemPlace)), yi go te o (fl.map fun f => (f.offset, f.type)) y = true → o + y.size = cs.length →
      fl.mapM (fun f => DataW.trod enc P w 0 sp true fuel f.type ((cs.drop f.offset).take (P.cellsOf f.type))) = some xs →
      (∀ n ∈ DataW.weightsEach P (fl.map (·.type)) (xs.map (·.1)), n ≤ reachBytes) → ∃ x, Rep (KC w) y x (cs.drop o)
  | [], o, y, xs, h, _, _, _ => by simp [yi] at h
  | [f], o, y, xs, h, hl, hm, hw => by
    simp only [List.map_cons, List.map_nil, yi, Bool.and_eq_true] at h
    obtain ⟨h1, h2, h3⟩ := h
    have h1 := Nat.eq_of_beq_eq_true h1
    obtain ⟨ti, ht, hs⟩ := sD h2
    simp only [List.mapM_cons, List.mapM_nil, Option.bind_eq_bind, Option.bind_eq_some_iff, Option.pure_def, Option.some.injEq] at hm
    obtain ⟨⟨d, ps⟩, e1, r, rfl, rfl⟩ := hm
    rw [im hte ht, hs, ← h1] at e1
    have hlen : (cs.drop o).length = y.size := by simp; omega
    rw [List.take_of_length_le (by omega)] at e1
    exact hgo _ _ _ _ _ h3 hlen e1 fun n hn => hw n (by simp only [List.map_cons, List.map_nil, DataW.weightsEach, List.append_nil]; exact hn)
  | f :: g :: r, o, y, xs, h, hl, hm, hw => by
    cases y <;> simp only [List.map_cons, yi, Bool.and_eq_true] at h <;> try (cases h; done)
    rename_i a b
    obtain ⟨h1, h2, h3, h4⟩ := h
    have h1 := Nat.eq_of_beq_eq_true h1
    obtain ⟨ti, ht, hs⟩ := sD h2
    rw [List.mapM_cons] at hm
    simp only [Option.bind_eq_bind, Option.bind_eq_some_iff, Option.pure_def, Option.some.injEq] at hm
    obtain ⟨⟨d, ps⟩, e1, q, e2, rfl⟩ := hm
    rw [im hte ht, hs, ← h1] at e1
    simp only [Ty.size] at hl
    obtain ⟨x1, k1⟩ := hgo _ _ _ _ _ h3 (by simp; omega) e1 fun n hn => hw n (by simp only [List.map_cons, DataW.weightsEach, List.mem_append]; exact .inl hn)
    obtain ⟨x2, k2⟩ := H8 hgo (g :: r) (o + a.size) b q h4 (by omega) e2 fun n hn => hw n (by simp only [List.map_cons, DataW.weightsEach, List.mem_append] at hn ⊢; exact .inr hn)
    refine ⟨(x1, x2), ?_⟩
    simp only [Rep]
    refine ⟨by simp; omega, k1, ?_⟩
    rw [List.drop_drop]
    exact k2
theorem aic {go : TypeId → Ty → Bool} {fuel : Nat} {cs : List Value} {e : TypeId} {t : Ty} {ei : TI} (he : te e = some ei) (hs : ei.size = t.size)
    (hgo : ∀ c d ps, c.length = t.size → DataW.trod enc P w 0 sp true fuel e c = some (d, ps) → (∀ n ∈ d.weights P e, n ≤ reachBytes) → ∃ x, Rep (KC w) t x c) {m : Nat} (hl : cs.length = m * t.size) {xs : List (DataW H × List MemPlace)}
    (hm : ((List.range m).mapM fun i => DataW.trod enc P w 0 sp true fuel e ((cs.drop (i * P.cellsOf e)).take (P.cellsOf e))) = some xs)
    (hw : ∀ n ∈ DataW.weightsAll P e (xs.map (·.1)), n ≤ reachBytes) : ∀ i, i < m → ∃ x, Rep (KC w) t x (seg cs (i * t.size) t.size) := fun i hi => by
  obtain ⟨h1, h2⟩ := DI hm
  rw [List.length_range] at h1
  have := h2 i (by simpa using hi) (by omega)
  rw [List.getElem_range, im hte he, hs] at this
  have hle : (i + 1) * t.size ≤ m * t.size := Nat.mul_le_mul_right _ hi
  rw [Nat.succ_mul] at hle
  refine hgo _ (xs[i]'(by omega)).1 (xs[i]'(by omega)).2 (fa (by omega)) this fun n hn => hw n (lj (List.mem_map.2 ⟨xs[i]'(by omega), List.getElem_mem _, rfl⟩) n hn)
omit hte in
theorem an4 {fuel : Nat} {e : TypeId} {c : Value} {d : DataW H} {ps : List MemPlace} (hu : P.underlying e = some (.int .u64)) (hr : DataW.trod enc P w 0 sp true fuel e [c] = some (d, ps)) : ∃ x : UInt64, c = fX x := by
  cases fuel with
  | zero => simp [DataW.trod] at hr
  | succ fuel =>
    simp only [DataW.trod, hu] at hr
    cases c <;> simp only at hr <;> try (cases hr; done)
    rename_i k' n
    split at hr
    · rename_i hk
      obtain ⟨rfl, hwf⟩ := hk
      have := bounds_u64 hwf
      refine ⟨UInt64.ofNat n.toNat, ?_⟩
      simp only [fX, UInt64.toNat_ofNat']
      congr 1
      omega
    · cases hr
theorem uq : ∀ (k fuel : Nat) (T : TypeId) (y : Ty) (cs : List Value) (d : DataW H) (ps : List MemPlace), vc te k T y = true → cs.length = y.size → DataW.trod enc P w 0 sp true fuel T cs = some (d, ps) →
    (∀ n ∈ d.weights P T, n ≤ reachBytes) → ∃ x, Rep (KC w) y x cs
  | 0, _, _, _, _, _, _, h, _, _, _ => by simp [vc] at h
  | k + 1, 0, _, _, _, _, _, _, _, h, _ => by simp [DataW.trod] at h
  | k + 1, fuel + 1, T, y, cs, d, ps, h, hl, hr, hw => by
    simp only [vc] at h
    split at h
    · cases h
    · rename_i ti hT
      obtain ⟨ds, hu, hd⟩ := (hte T ti hT).desc
      have hcells := im hte hT
      simp only [DataW.trod, hu] at hr
      split at h
      · -- bool
        rename_i he
        rw [he] at hd
        simp only at hd
        subst hd
        match cs, hl with
        | [c], hl1 =>
          cases c <;> simp only [Option.some.injEq] at hr <;> try (cases hr; done)
          exact ⟨_, rfl⟩
      · rename_i he
        rw [he] at hd
        simp only at hd
        subst hd
        match cs, hl with
        | [c], hl1 =>
          cases c <;> simp only at hr <;> try (cases hr; done)
          rename_i k' n
          split at hr
          · rename_i hk
            obtain ⟨rfl, hwf⟩ := hk
            have := bounds_u64 hwf
            refine ⟨UInt64.ofNat n.toNat, ?_⟩
            simp only [Rep, fX, UInt64.toNat_ofNat']
            congr 2
            omega
          · cases hr
      · rename_i he
        rw [he] at hd
        simp only at hd
        subst hd
        match cs, hl with
        | [c], hl1 =>
          cases c <;> simp only at hr <;> try (cases hr; done)
          rename_i k' n
          split at hr
          · rename_i hk
            obtain ⟨rfl, hwf⟩ := hk
            have := bounds_u8 hwf
            refine ⟨UInt8.ofNat n.toNat, ?_⟩
            simp only [Rep, vu8, UInt8.toNat_ofNat']
            congr 2
            omega
          · cases hr
      · rename_i he
        rw [he] at hd
        simp only at hd
        subst hd
        match cs, hl with
        | [c], hl1 =>
          cases c <;> simp only at hr <;> try (cases hr; done)
          rename_i k' n
          split at hr
          · rename_i hk
            obtain ⟨rfl, hwf⟩ := hk
            have := bounds_i64 hwf
            exact ⟨n, rfl, bE (by omega)⟩
          · cases hr
      · rename_i he
        rw [he] at hd
        simp only at hd
        subst hd
        match cs, hl with
        | [c], hl1 =>
          cases c <;> simp only at hr <;> try (cases hr; done)
          rename_i s
          split at hr
          · cases hr
            refine ⟨s.data.toList, ?_⟩
            have := hw s.data.toList.length (by simp [DataW.weights])
            unfold reachBytes at this
            simp only [Rep]
            exact ⟨trivial, by unfold ct; omega⟩
          · cases hr
      · -- four words
        rename_i m e he
        rw [he] at hd
        simp only at hd
        subst hd
        simp only [Bool.and_eq_true] at h
        obtain ⟨h1, h2, h3⟩ := h
        split at h1
        · rename_i ei hei
          rw [Bool.and_eq_true] at h1
          obtain ⟨h4, h5⟩ := h1
          split at h4
          · rename_i hed
            have h2 := Nat.eq_of_beq_eq_true h2
            have h5 := Nat.eq_of_beq_eq_true h5
            subst h2
            obtain ⟨de, hue, hde⟩ := (hte e ei hei).desc
            rw [hed] at hde
            simp only at hde
            subst hde
            have hl4 : cs.length = 4 := hl
            simp only at hr
            rw [if_pos (by rw [hcells]; rw [hl4]; exact (Nat.eq_of_beq_eq_true h3).symm)] at hr
            simp only [Option.map_eq_some_iff] at hr
            obtain ⟨xs, hm, hx⟩ := hr
            obtain ⟨m1, m2⟩ := DI hm
            rw [List.length_range] at m1
            match cs, hl4 with
            | [c0, c1, c2, c3], hl1 =>
              have key : ∀ i (hi : i < 4), ∃ x : UInt64, [c0, c1, c2, c3][i] = fX x := fun i hi => by
                have := m2 i (by simpa using hi) (by omega)
                rw [List.getElem_range, im hte hei, h5, Nat.mul_one] at this
                have e2 : ([c0, c1, c2, c3].drop i).take 1 = [[c0, c1, c2, c3][i]] := by
                  rw [List.drop_eq_getElem_cons (by simpa using hi)]
                  rfl
                rw [e2] at this
                exact an4 hue this
              obtain ⟨x0, k0⟩ := key 0 (by omega)
              obtain ⟨x1, k1⟩ := key 1 (by omega)
              obtain ⟨x2, k2⟩ := key 2 (by omega)
              obtain ⟨x3, k3⟩ := key 3 (by omega)
              simp only [List.getElem_cons_zero, List.getElem_cons_succ] at k0 k1 k2 k3
              exact ⟨⟨x0, x1, x2, x3⟩, by simp only [Rep, k0, k1, k2, k3]⟩
          · cases h4
        · cases h1
      · -- an array
        rename_i m e k' t he
        rw [he] at hd
        simp only at hd
        subst hd
        simp only [Bool.and_eq_true] at h
        obtain ⟨h1, h2, h3, h4⟩ := h
        have h1 := Nat.eq_of_beq_eq_true h1
        subst h1
        obtain ⟨ei, hei, hs⟩ := sD h2
        have hl' : cs.length = m * t.size := hl
        simp only at hr
        rw [if_pos (by rw [hcells, hl']; exact (Nat.eq_of_beq_eq_true h3).symm)] at hr
        simp only [Option.map_eq_some_iff] at hr
        obtain ⟨xs, hm, hx⟩ := hr
        cases hx
        have key := aic (go := fun _ _ => true) hte hei hs (fun c d ps h1 h2 h3 => uq k fuel e t c d ps h4 h1 h2 h3) hl' hm (fun n hn => hw n (by simp only [DataW.weights, hu]; exact hn))
        obtain ⟨l, l1, l2⟩ := tt (d := t.d) m key
        exact ⟨l, hl', l1, l2⟩
      · -- a slice
        rename_i e t he
        rw [he] at hd
        simp only at hd
        subst hd
        rw [Bool.and_eq_true] at h
        obtain ⟨h1, h4⟩ := h
        split at h1
        · rename_i ei hei
          simp only [Bool.and_eq_true] at h1
          obtain ⟨h1, h2, h3⟩ := h1
          have hs := Nat.eq_of_beq_eq_true h1
          have hpos := cL h2
          have hby := cL h3
          match cs, hl with
          | [c], hl1 =>
            cases c <;> try (exfalso; simp at hr; done)
            rename_i ad len cap
            cases ad with
            | none =>
              rcases len with _ | len
              · rcases cap with _ | cap
                · exact ⟨[], by simp only [Rep]; exact ⟨Nat.zero_le _, none, 0, rfl, Nat.le_refl _, .inl trivial⟩⟩
                · cases hr
              · cases hr
            | some a =>
              simp only at hr
              split at hr
              · rename_i hcond
                obtain ⟨_, hlc, _⟩ := hcond
                simp only [Option.bind_eq_some_iff, Option.map_eq_some_iff] at hr
                obtain ⟨elems, hm, rest, _, hx⟩ := hr
                cases hx
                obtain ⟨m1, m2⟩ := DI hm
                rw [List.length_range] at m1
                have hwt := hw ((elems.length + rest.length) * P.bytesOf e) (by simp [DataW.weights, hu])
                rw [abY hte hei] at hwt
                have hlen : len ≤ ct := by
                  have : elems.length ≤ (elems.length + rest.length) * ei.bytes := Nat.le_trans (Nat.le_add_right _ _) (Nat.le_mul_of_pos_right _ hby)
                  unfold reachBytes at hwt
                  unfold ct
                  omega
                rcases Nat.eq_zero_or_pos len with h0 | h0
                · subst h0
                  exact ⟨[], by simp only [Rep]; exact ⟨Nat.zero_le _, _, _, rfl, Nat.zero_le _, .inl trivial⟩⟩
                · have key : ∀ i, i < len → ∃ c, w.cells? 0 (a.add (i * t.size)) t.size = some c ∧ ∃ x, Rep (KC w) t x c := fun i hi => by
                    have := m2 i (by simpa using hi) (by omega)
                    rw [List.getElem_range, im hte hei, hs] at this
                    obtain ⟨c, hc, hrr⟩ := Option.bind_eq_some_iff.1 this
                    refine ⟨c, hc, uq k fuel e t c (elems[i]'(by omega)).1 (elems[i]'(by omega)).2 h4 ?_ hrr fun n hn => hw n ?_⟩
                    · obtain ⟨arr, E, fz, _, _, hle, rfl⟩ := La (by omega) hc
                      exact fa (by simpa using hle)
                    · simp only [DataW.weights, hu, List.mem_cons, List.mem_append]
                      exact .inr (.inl (lj (List.mem_map.2 ⟨elems[i]'(by omega), List.getElem_mem _, rfl⟩) n hn))
                  obtain ⟨c0, hc0, _⟩ := key 0 h0
                  rw [Nat.zero_mul] at hc0
                  obtain ⟨arr, E, fz, hb, hsp, _, _⟩ := La (by omega) hc0
                  have hb' : w.heap[a.block]? = some (.cells arr E fz) := hb
                  have hsp' : a.spot = none := hsp
                  have at_i : ∀ i, i < len → a.off + i * t.size + t.size ≤ arr.size ∧ ∃ x, Rep (KC w) t x (seg arr.toList (a.off + i * t.size) t.size) := fun i hi => by
                    obtain ⟨c, hc, x, hx⟩ := key i hi
                    obtain ⟨arr2, E2, fz2, hb2, _, hle, rfl⟩ := La (by omega) hc
                    have hblk : (a.add (i * t.size)).block = a.block := by unfold Addr.add; split <;> rfl
                    have hoff : (a.add (i * t.size)).off = a.off + i * t.size := by
                      unfold Addr.add
                      split
                      · rename_i h; rw [h]; rfl
                      · rfl
                    rw [hblk, hb'] at hb2
                    cases hb2
                    rw [hoff] at hle hx
                    exact ⟨hle, x, hx⟩
                  obtain ⟨l, l1, l2⟩ := tt (d := t.d) len fun i hi => (at_i i hi).2
                  refine ⟨l, ?_⟩
                  simp only [Rep]
                  refine ⟨by omega, some a, cap, by rw [l1], by omega, .inr ⟨a.block, a.off, arr, E, fz, ?_, hb', ?_, fun i hi => l2 i (by omega)⟩⟩
                  · obtain ⟨blk, off, spot⟩ := a
                    simp only at hsp'
                    rw [hsp']
                  · have := (at_i (len - 1) (by omega)).1
                    have e2 : (len - 1) * t.size + t.size = len * t.size := by
                      rw [← Nat.succ_mul]
                      congr 1
                      omega
                    rw [l1]
                    omega
              · cases hr
        · cases h1
      · -- a struct
        rename_i y _ _ fs he
        rw [he] at hd
        simp only at hd
        obtain ⟨fields, rfl, hf, _⟩ := hd
        rw [Bool.and_eq_true] at h
        have hsz := Nat.eq_of_beq_eq_true h.1
        simp only at hr
        rw [if_pos (by rw [hcells, hl]; exact hsz.symm)] at hr
        simp only [Option.map_eq_some_iff] at hr
        obtain ⟨xs, hm, hx⟩ := hr
        cases hx
        have h2 := h.2
        rw [← hf] at h2
        have := H8 hte (go := vc te k) (cs := cs) (fun T y c d ps a b c' d' => uq k fuel T y c d ps a b c' d') fields.toList 0 y xs h2 (by omega) hm (fun n hn => hw n (by simp only [DataW.weights, hu]; exact hn))
        simpa using this
      · cases h
end
end Sx
end Go.Proofs.YtohjofabochgfaaGreat

namespace Go.Proofs.YtohjofabochgfaaGreat
namespace Sx
open Go Go.RowKit Go.ChangeShapes Go.WideShapes Go.ChangeAt
def aid (te : TE) (k : Nat) : List TypeId → List (Bool × Ty) → Bool
  | [], [] => true
  | T :: ts, (b, y) :: r => (match te T with
    | some ti => (b == ti.desc.agg) && Nat.beq ti.size y.size
    | none => false) && (vc te k T y && aid te k ts r)
  | _, _ => false
section
variable {H : Type} {enc : TypeId × Value → H} {P : Program} {te : TE} (hte : lv P te) {w : World} {sp : Nat → Bool}
include hte
theorem alK {k : Nat} {T : TypeId} {y : Ty} {ti : TI} {v : Value} {d : DataW H} {ps : List MemPlace} (hT : te T = some ti) (hs : ti.size = y.size) (hp : vc te k T y = true) {base : Nat} (hok : Value.okWide P w .any base T v)
    (h : DataW.Trod enc P w 0 sp true T v d ps) (hw : ∀ n ∈ d.weights P T, n ≤ reachBytes) : ∃ x : y.T, SV.rel (gf w) (inj ti.desc.agg y x) v := by
  obtain ⟨fuel, hf⟩ := h
  obtain ⟨ds, hu, hd⟩ := (hte T ti hT).desc
  cases hagg : ti.desc.agg
  · have hone : v.cells.toList = [v] ∧ v.oneCell' = true := by
      have hc : Cell.okWide P w .any base T v := by
        unfold Value.okWide at hok
        rw [hu] at hok
        cases ds <;> first | exact hok | skip
        all_goals (
          cases hk : ti.desc <;> rw [hk] at hd hagg <;> simp only [TD.agg] at hd hagg <;>
            first | (cases hagg; done) | (cases hd; done) | (obtain ⟨e, he⟩ := hd; cases he; done) | (obtain ⟨⟨e, he⟩, _⟩ := hd; cases he; done) | exact absurd hd id)
      unfold Cell.okWide Cell.ok at hc
      rw [hu] at hc
      cases v <;> first | exact ⟨rfl, rfl⟩ | (exfalso; cases ds <;> first | exact hc | (simp at hc; done))
    rw [hone.1] at hf
    have hsz : y.size = 1 := by rw [← hs]; exact (hte T ti hT).one hagg
    obtain ⟨x, hx⟩ := uq hte k fuel T y [v] d ps hp (by rw [hsz]; rfl) hf hw
    refine ⟨x, ?_⟩
    have hr := fb (R := gf w) y x [v] hx
    simp only [inj, n5, Bool.false_eq_true, if_false]
    have hl := fZ y x
    rw [hsz] at hl
    match hc : unpack y x, hl with
    | [u], _ =>
      rw [hc] at hr
      obtain ⟨v', e, h⟩ := cm hr
      cases e
      exact h
  · have hv : ∃ cs, v = .agg cs ∧ cs.size = P.cellsOf T := by
      unfold Value.okWide at hok
      rw [hu] at hok
      cases hk : ti.desc <;> rw [hk] at hd hagg <;> simp only [TD.agg] at hd hagg <;> try (cases hagg; done)
      · obtain ⟨fields, rfl, _⟩ := hd
        obtain ⟨cs, h1, h2, _⟩ := hok
        exact ⟨cs, h1, h2⟩
      · subst hd
        obtain ⟨cs, h1, h2, _⟩ := hok
        exact ⟨cs, h1, h2⟩
    obtain ⟨cs, rfl, hsz⟩ := hv
    obtain ⟨x, hx⟩ := uq hte k fuel T y cs.toList d ps hp (by rw [Array.length_toList, hsz, im hte hT, hs]) hf hw
    exact ⟨x, vq (fb (R := gf w) y x _ hx) (nx _ _ _ hx)⟩
theorem Oa {k base : Nat} : ∀ {ts : List TypeId} {kd : List (Bool × Ty)} {vs : List Value} {ds : List (DataW H)} {ps : List MemPlace}, aid te k ts kd = true →
    (∀ (j : Nat) t v, ts[j]? = some t → vs[j]? = some v → Value.okWide P w .any base t v) → DataW.TrodAll enc P w 0 sp true ts vs ds ps → (DataW.weightsEach P ts ds).all (· ≤ reachBytes) = true →
    ∃ x : ATy kd, SV.bQ (gf w) (anu kd x) vs
  | [], [], [], [], _, _, _, _, _ => ⟨(), by simp only [anu, SV.bQ]⟩
  | [], [], v :: vs, _, _, _, _, h, _ => by simp [DataW.TrodAll] at h
  | [], [], [], d :: ds, _, _, _, h, _ => by simp [DataW.TrodAll] at h
  | [], a :: kd, _, _, _, h, _, _, _ => by simp [aid] at h
  | T :: ts, [], _, _, _, h, _, _, _ => by simp [aid] at h
  | T :: ts, (b, y) :: kd, [], _, _, _, _, h, _ => by simp [DataW.TrodAll] at h
  | T :: ts, (b, y) :: kd, v :: vs, [], _, _, _, h, _ => by simp [DataW.TrodAll] at h
  | T :: ts, (b, y) :: kd, v :: vs, d :: ds, ps, h, hok, ht, hw => by
    obtain ⟨p, q, h1, h2, rfl⟩ := ht
    simp only [aid, Bool.and_eq_true] at h
    obtain ⟨hb, hp, hr⟩ := h
    split at hb
    · rename_i ti hT
      rw [Bool.and_eq_true] at hb
      have e1 : b = ti.desc.agg := by simpa using hb.1
      subst e1
      simp only [DataW.weightsEach, List.all_append, Bool.and_eq_true] at hw
      obtain ⟨x, hx⟩ := alK hte hT (Nat.eq_of_beq_eq_true hb.2) hp (hok 0 T v rfl rfl) h1 fun n hn => by simpa using List.all_eq_true.1 hw.1 n hn
      obtain ⟨xs, hxs⟩ := Oa hr (fun j t u h1 h2 => hok (j + 1) t u h1 h2) h2 hw.2
      exact ⟨(x, xs), by simp only [anu, SV.bQ]; exact ⟨v, vs, rfl, hx, hxs⟩⟩
    · cases hb
end
theorem akC {S : av} {pre : S.T → Bool} {F : S.T → OT S.Y} {args : List SV} {X : S.T} {out : Out} (hp : S.inp.prj ⟨args, alN⟩ = some X) (hpre : pre X = true)
    (hr : ((F X).bind fun oy => S.emit (S.inp.bd ⟨args, alN⟩) 0 alN oy.1 oy.2).run = some out) : ((S.aH pre F).f 0 args alN).run = some out := by
  simp only [av.aH, hp, hpre]
  exact hr
theorem IG {H : Type} {enc : TypeId × Value → H} {P : Program} {w w' : World} (hl : laidOutB P = true) (hb : Below w.heap.size w w') : ∀ {ts : List TypeId} {vs : List Value} {ds : List (DataW H)} {ps : List MemPlace},
    ts.all (fun t => P.readableRec t && Nat.blt t P.types.size) = true → DataW.TrodAll enc P w 0 (fun _ => true) true ts vs ds ps → DataW.TrodAll enc P w' 0 (fun b => decide (b < w.heap.size)) true ts vs ds ps
  | [], [], [], _, _, h => h
  | [], v :: vs, _, _, _, h => by simp [DataW.TrodAll] at h
  | [], [], d :: ds, _, _, h => by simp [DataW.TrodAll] at h
  | T :: ts, [], _, _, _, h => by simp [DataW.TrodAll] at h
  | T :: ts, v :: vs, [], _, _, h => by simp [DataW.TrodAll] at h
  | T :: ts, v :: vs, d :: ds, ps, hr, h => by
    obtain ⟨p, q, h1, h2, rfl⟩ := h
    simp only [List.all_cons, Bool.and_eq_true] at hr
    have lt1 : ∀ x ∈ p, x.block < w.heap.size := by obtain ⟨m, hm⟩ := h1; exact DataW.trod_lt m _ _ _ hm
    exact ⟨p, q, Below.trod hl hr.1.1 (cL hr.1.2) h1 hb lt1, IG hl hb hr.2 h2, rfl⟩
end Sx
end Go.Proofs.YtohjofabochgfaaGreat

namespace Go.Proofs.YtohjofabochgfaaGreat
namespace Sx
open Go
theorem anC {P : Program} {f : FuncId} {S : av} {k : Nat} (hk : S.chunks.all (fun c => Nat.blt c.1 k && !c.2.vv) = true) {pre : S.T → Bool} {F : S.T → OT S.Y}
    (h : ∀ (x : S.T) (oy : S.Y) (vs : List Value) (N : Ctx) (w : World), pre x = true → (F x).run = some oy → SV.bQ N (S.inp.inj x).tm vs →
      ∃ v u, (callFunc f vs.toArray).run P w = .ok (.value u) w ∧ SV.rel N v u ∧ oy.1.is oy.2 false v (dI S.chunks x.2)) : ac P f (S.aH pre F) := by
  refine ⟨?_⟩
  intro R w d args vs out hm hr hrun
  simp only [av.aH] at hrun
  split at hrun
  · cases hrun
  · rename_i x hx
    obtain ⟨hpre, h2⟩ := OT.aE hrun
    obtain ⟨oy, h3, h4⟩ := OT.run_bind h2
    unfold av.emit at h4
    dsimp only at h4
    obtain ⟨hend, h5⟩ := OT.aE h4
    have hx' := hx
    unfold Shape.prj at hx'
    dsimp only at hx'
    cases hbo : S.inp.Gb ⟨args, R.hp⟩ (S.inp.bd ⟨args, R.hp⟩) && Nat.beq args.length S.inp.n
    · rw [hbo] at hx'; cases hx'
    · rw [hbo] at hx'
      rw [Bool.and_eq_true] at hbo
      obtain ⟨hx1, hx2⟩ := bC hx'
      have hlen : args.length = S.inp.n := Nat.eq_of_beq_eq_true hbo.2
      have hN := J9 (s := S.inp) (st := ⟨args, R.hp⟩) (F' := R.Al (S.inp.bd ⟨args, R.hp⟩) S.bJ w) (U' := R.Gt (S.inp.bd ⟨args, R.hp⟩) S.bJ w) hbo.1 hx2 rfl hm (Ox hm) (Ky hm) agt (Ow hm) Ov ant hm.env
      have hargs : SV.bQ (R.named (R.Al (S.inp.bd ⟨args, R.hp⟩) S.bJ w) (R.Gt (S.inp.bd ⟨args, R.hp⟩) S.bJ w) (S.inp.bd ⟨args, R.hp⟩) (dI S.chunks x.2)) (S.inp.inj x).tm vs :=
        kP (s := S.inp) (st := ⟨args, R.hp⟩) hbo.1 hx2 rfl hm (Ox hm) (Ky hm) hr hx1 (SV.xp (by rw [List.length_replicate, ← hlen]; exact SV.aQ hr) fun i hi hi' => by simp [SV.rel])
      obtain ⟨v, u, hv, hru, his⟩ := h x oy vs _ w hpre h3 hargs
      obtain ⟨R', a1, a2⟩ := agV hm hx hk (Ctx.Ext.refl _) hN hru his hend
      rw [his.1] at h5
      cases h5
      exact .inr ⟨u, w, hv, u, R', rfl, a1, a2⟩
end Sx
end Go.Proofs.YtohjofabochgfaaGreat

namespace Go.Proofs.YtohjofabochgfaaGreat
namespace Sx
open Go
def Out.after (u : List (Nat × Ch)) : Out → Out
  | .ret e => .ret ⟨e.v, u ++ e.upd⟩
  | .pan v u' => .pan v (u ++ u')
theorem eH.trans {R R1 R2 : Ctx} {w w' : World} {u u' : List (Nat × Ch)} (h : eH R R1 w u) (h' : eH R1 R2 w' u') : eH R R2 w' (u ++ u') :=
  ⟨h.ext.trans h'.ext, by rw [h'.hp, h.hp, fR], h'.mem⟩
end Sx
end Go.Proofs.YtohjofabochgfaaGreat

namespace Go.Proofs.YtohjofabochgfaaGreat
open Sx Go
set_option maxRecDepth 100000
def am7 : TI := ⟨1, 8, .other, [.bH], none⟩
theorem ar4 : aX Tryz.prog 1 am7 := ag (by kernel_rfl) (by kernel_rfl) (by kernel_rfl) (by kernel_rfl) (by kernel_rfl) (by kernel_rfl) (by kernel_rfl) (by kernel_rfl) (by kernel_rfl) (by kernel_rfl) (by kernel_rfl) trivial
def am6 : TI := ⟨1, 8, .int .i64, [.int 0], some .int⟩
theorem ar3 : aX Tryz.prog 2 am6 := ag (by kernel_rfl) (by kernel_rfl) (by kernel_rfl) (by kernel_rfl) (by kernel_rfl) (by kernel_rfl) (by kernel_rfl) (by kernel_rfl) (by kernel_rfl) (by kernel_rfl) (by kernel_rfl) ⟨by kernel_rfl, by kernel_rfl, by kernel_rfl⟩
def am5 : TI := ⟨1, 8, .int .i64, [.int 0], some .int⟩
theorem ar2 : aX Tryz.prog 3 am5 := ag (by kernel_rfl) (by kernel_rfl) (by kernel_rfl) (by kernel_rfl) (by kernel_rfl) (by kernel_rfl) (by kernel_rfl) (by kernel_rfl) (by kernel_rfl) (by kernel_rfl) (by kernel_rfl) ⟨by kernel_rfl, by kernel_rfl, by kernel_rfl⟩
def am4 : TI := ⟨1, 1, .bool, [.bool false], some .bool⟩
theorem ar1 : aX Tryz.prog 4 am4 := ag (by kernel_rfl) (by kernel_rfl) (by kernel_rfl) (by kernel_rfl) (by kernel_rfl) (by kernel_rfl) (by kernel_rfl) (by kernel_rfl) (by kernel_rfl) (by kernel_rfl) (by kernel_rfl) ⟨by kernel_rfl, by kernel_rfl, by kernel_rfl⟩
def am3 : TI := ⟨1, 1, .int .u8, [.u8 0], some .u8⟩
theorem ar0 : aX Tryz.prog 5 am3 := ag (by kernel_rfl) (by kernel_rfl) (by kernel_rfl) (by kernel_rfl) (by kernel_rfl) (by kernel_rfl) (by kernel_rfl) (by kernel_rfl) (by kernel_rfl) (by kernel_rfl) (by kernel_rfl) ⟨by kernel_rfl, by kernel_rfl, by kernel_rfl⟩
def am2 : TI := ⟨1, 1, .int .u8, [.u8 0], some .u8⟩
theorem arZ : aX Tryz.prog 6 am2 := ag (by kernel_rfl) (by kernel_rfl) (by kernel_rfl) (by kernel_rfl) (by kernel_rfl) (by kernel_rfl) (by kernel_rfl) (by kernel_rfl) (by kernel_rfl) (by kernel_rfl) (by kernel_rfl) ⟨by kernel_rfl, by kernel_rfl, by kernel_rfl⟩
def am1 : TI := ⟨4, 24, .struct [(0, 2), (1, 3), (2, 4), (3, 6)], [.int 0, .int 0, .bool false, .u8 0], some (.prod .int (.prod .int (.prod .bool .u8)))⟩
theorem arY : aX Tryz.prog 7 am1 := ag (by kernel_rfl) (by kernel_rfl) (by kernel_rfl) (by kernel_rfl) (by kernel_rfl) (by kernel_rfl) (by kernel_rfl) (by kernel_rfl) (by kernel_rfl) (by kernel_rfl) (by kernel_rfl) ⟨by kernel_rfl, by kernel_rfl, by kernel_rfl⟩
def am0 : TI := ⟨4, 24, .struct [(0, 2), (1, 3), (2, 4), (3, 6)], [.int 0, .int 0, .bool false, .u8 0], some (.prod .int (.prod .int (.prod .bool .u8)))⟩
theorem arX : aX Tryz.prog 8 am0 := ag (by kernel_rfl) (by kernel_rfl) (by kernel_rfl) (by kernel_rfl) (by kernel_rfl) (by kernel_rfl) (by kernel_rfl) (by kernel_rfl) (by kernel_rfl) (by kernel_rfl) (by kernel_rfl) ⟨by kernel_rfl, by kernel_rfl, by kernel_rfl⟩
def amZ : TI := ⟨1, 16, .str, [.str []], some .str⟩
theorem arW : aX Tryz.prog 9 amZ := ag (by kernel_rfl) (by kernel_rfl) (by kernel_rfl) (by kernel_rfl) (by kernel_rfl) (by kernel_rfl) (by kernel_rfl) (by kernel_rfl) (by kernel_rfl) (by kernel_rfl) (by kernel_rfl) ⟨by kernel_rfl, by kernel_rfl, by kernel_rfl⟩
def ad4 : TI := ⟨1, 16, .str, [.str []], some .str⟩
theorem apl : aX Tryz.prog 10 ad4 := ag (by kernel_rfl) (by kernel_rfl) (by kernel_rfl) (by kernel_rfl) (by kernel_rfl) (by kernel_rfl) (by kernel_rfl) (by kernel_rfl) (by kernel_rfl) (by kernel_rfl) (by kernel_rfl) ⟨by kernel_rfl, by kernel_rfl, by kernel_rfl⟩
def ad3 : TI := ⟨1, 16, .str, [.str []], some .str⟩
theorem apk : aX Tryz.prog 11 ad3 := ag (by kernel_rfl) (by kernel_rfl) (by kernel_rfl) (by kernel_rfl) (by kernel_rfl) (by kernel_rfl) (by kernel_rfl) (by kernel_rfl) (by kernel_rfl) (by kernel_rfl) (by kernel_rfl) ⟨by kernel_rfl, by kernel_rfl, by kernel_rfl⟩
def ad2 : TI := ⟨1, 8, .int .u64, [.u64 0], some .u64⟩
theorem apj : aX Tryz.prog 12 ad2 := ag (by kernel_rfl) (by kernel_rfl) (by kernel_rfl) (by kernel_rfl) (by kernel_rfl) (by kernel_rfl) (by kernel_rfl) (by kernel_rfl) (by kernel_rfl) (by kernel_rfl) (by kernel_rfl) ⟨by kernel_rfl, by kernel_rfl, by kernel_rfl⟩
def ad1 : TI := ⟨1, 8, .ptr [("Error", 183), ("RuntimeError", 184)], [.nQ], none⟩
theorem api : aX Tryz.prog 15 ad1 := ag (by kernel_rfl) (by kernel_rfl) (by kernel_rfl) (by kernel_rfl) (by kernel_rfl) (by kernel_rfl) (by kernel_rfl) (by kernel_rfl) (by kernel_rfl) (by kernel_rfl) (by kernel_rfl) trivial
def ad0 : TI := ⟨1, 8, .ptr [("Error", 185), ("RuntimeError", 186)], [.nQ], none⟩
theorem aph : aX Tryz.prog 16 ad0 := ag (by kernel_rfl) (by kernel_rfl) (by kernel_rfl) (by kernel_rfl) (by kernel_rfl) (by kernel_rfl) (by kernel_rfl) (by kernel_rfl) (by kernel_rfl) (by kernel_rfl) (by kernel_rfl) trivial
def adZ : TI := ⟨1, 8, .ptr [("Align", 187)], [.nQ], none⟩
theorem apg : aX Tryz.prog 17 adZ := ag (by kernel_rfl) (by kernel_rfl) (by kernel_rfl) (by kernel_rfl) (by kernel_rfl) (by kernel_rfl) (by kernel_rfl) (by kernel_rfl) (by kernel_rfl) (by kernel_rfl) (by kernel_rfl) trivial
def adY : TI := ⟨1, 16, .iface, [.dF], none⟩
theorem apf : aX Tryz.prog 20 adY := ag (by kernel_rfl) (by kernel_rfl) (by kernel_rfl) (by kernel_rfl) (by kernel_rfl) (by kernel_rfl) (by kernel_rfl) (by kernel_rfl) (by kernel_rfl) (by kernel_rfl) (by kernel_rfl) trivial
def adX : TI := ⟨1, 4, .int .i32, [.bH], none⟩
theorem ape : aX Tryz.prog 21 adX := ag (by kernel_rfl) (by kernel_rfl) (by kernel_rfl) (by kernel_rfl) (by kernel_rfl) (by kernel_rfl) (by kernel_rfl) (by kernel_rfl) (by kernel_rfl) (by kernel_rfl) (by kernel_rfl) trivial
def adW : TI := ⟨1, 24, .slice 41, [.emp], some (.list .elem)⟩
theorem apd : aX Tryz.prog 22 adW := ag (by kernel_rfl) (by kernel_rfl) (by kernel_rfl) (by kernel_rfl) (by kernel_rfl) (by kernel_rfl) (by kernel_rfl) (by kernel_rfl) (by kernel_rfl) (by kernel_rfl) (by kernel_rfl) ⟨by kernel_rfl, by kernel_rfl, by kernel_rfl⟩
def adV : TI := ⟨2, 32, .struct [(0, 3), (1, 22)], [.int 0, .emp], some (.prod .int (.list .elem))⟩
theorem apc : aX Tryz.prog 23 adV := ag (by kernel_rfl) (by kernel_rfl) (by kernel_rfl) (by kernel_rfl) (by kernel_rfl) (by kernel_rfl) (by kernel_rfl) (by kernel_rfl) (by kernel_rfl) (by kernel_rfl) (by kernel_rfl) ⟨by kernel_rfl, by kernel_rfl, by kernel_rfl⟩
def adU : TI := ⟨2, 32, .struct [(0, 3), (1, 22)], [.int 0, .emp], some (.prod .int (.list .elem))⟩
theorem apb : aX Tryz.prog 24 adU := ag (by kernel_rfl) (by kernel_rfl) (by kernel_rfl) (by kernel_rfl) (by kernel_rfl) (by kernel_rfl) (by kernel_rfl) (by kernel_rfl) (by kernel_rfl) (by kernel_rfl) (by kernel_rfl) ⟨by kernel_rfl, by kernel_rfl, by kernel_rfl⟩
def adT : TI := ⟨1, 24, .slice 5, [.emp], some (.list .u8)⟩
theorem apa : aX Tryz.prog 25 adT := ag (by kernel_rfl) (by kernel_rfl) (by kernel_rfl) (by kernel_rfl) (by kernel_rfl) (by kernel_rfl) (by kernel_rfl) (by kernel_rfl) (by kernel_rfl) (by kernel_rfl) (by kernel_rfl) ⟨by kernel_rfl, by kernel_rfl, by kernel_rfl⟩
def adS : TI := ⟨1, 24, .slice 45, [.emp], some (.list (.prod .int (.prod .elem (.prod .elem (.prod .elem .bool)))))⟩
theorem ao9 : aX Tryz.prog 26 adS := ag (by kernel_rfl) (by kernel_rfl) (by kernel_rfl) (by kernel_rfl) (by kernel_rfl) (by kernel_rfl) (by kernel_rfl) (by kernel_rfl) (by kernel_rfl) (by kernel_rfl) (by kernel_rfl) ⟨by kernel_rfl, by kernel_rfl, by kernel_rfl⟩
def adR : TI := ⟨1, 8, .other, [.bH], none⟩
theorem ao8 : aX Tryz.prog 27 adR := ag (by kernel_rfl) (by kernel_rfl) (by kernel_rfl) (by kernel_rfl) (by kernel_rfl) (by kernel_rfl) (by kernel_rfl) (by kernel_rfl) (by kernel_rfl) (by kernel_rfl) (by kernel_rfl) trivial
def adQ : TI := ⟨1, 8, .other, [.bH], none⟩
theorem ao7 : aX Tryz.prog 28 adQ := ag (by kernel_rfl) (by kernel_rfl) (by kernel_rfl) (by kernel_rfl) (by kernel_rfl) (by kernel_rfl) (by kernel_rfl) (by kernel_rfl) (by kernel_rfl) (by kernel_rfl) (by kernel_rfl) trivial
def adP : TI := ⟨1, 8, .ptr [("Point", 20), ("Rest", 25), ("Scalar", 22)], [.nQ], none⟩
theorem ao6 : aX Tryz.prog 29 adP := ag (by kernel_rfl) (by kernel_rfl) (by kernel_rfl) (by kernel_rfl) (by kernel_rfl) (by kernel_rfl) (by kernel_rfl) (by kernel_rfl) (by kernel_rfl) (by kernel_rfl) (by kernel_rfl) trivial
def adO : TI := ⟨1, 8, .int .i64, [.int 0], some .int⟩
theorem ao5 : aX Tryz.prog 30 adO := ag (by kernel_rfl) (by kernel_rfl) (by kernel_rfl) (by kernel_rfl) (by kernel_rfl) (by kernel_rfl) (by kernel_rfl) (by kernel_rfl) (by kernel_rfl) (by kernel_rfl) (by kernel_rfl) ⟨by kernel_rfl, by kernel_rfl, by kernel_rfl⟩
def adN : TI := ⟨1, 8, .other, [.bH], none⟩
theorem ao4 : aX Tryz.prog 32 adN := ag (by kernel_rfl) (by kernel_rfl) (by kernel_rfl) (by kernel_rfl) (by kernel_rfl) (by kernel_rfl) (by kernel_rfl) (by kernel_rfl) (by kernel_rfl) (by kernel_rfl) (by kernel_rfl) trivial
def adM : TI := ⟨1, 8, .other, [.bH], none⟩
theorem ao3 : aX Tryz.prog 33 adM := ag (by kernel_rfl) (by kernel_rfl) (by kernel_rfl) (by kernel_rfl) (by kernel_rfl) (by kernel_rfl) (by kernel_rfl) (by kernel_rfl) (by kernel_rfl) (by kernel_rfl) (by kernel_rfl) trivial
def adL : TI := ⟨6, 96, .struct [(0, 3), (1, 24), (3, 25), (4, 3), (5, 25)], [.int 0, .int 0, .emp, .emp, .int 0, .emp], some (.prod .int (.prod (.prod .int (.list .elem)) (.prod (.list .u8) (.prod .int (.list .u8)))))⟩
theorem ao2 : aX Tryz.prog 34 adL := ag (by kernel_rfl) (by kernel_rfl) (by kernel_rfl) (by kernel_rfl) (by kernel_rfl) (by kernel_rfl) (by kernel_rfl) (by kernel_rfl) (by kernel_rfl) (by kernel_rfl) (by kernel_rfl) ⟨by kernel_rfl, by kernel_rfl, by kernel_rfl⟩
def adK : TI := ⟨6, 96, .struct [(0, 3), (1, 24), (3, 25), (4, 3), (5, 25)], [.int 0, .int 0, .emp, .emp, .int 0, .emp], some (.prod .int (.prod (.prod .int (.list .elem)) (.prod (.list .u8) (.prod .int (.list .u8)))))⟩
theorem ao1 : aX Tryz.prog 35 adK := ag (by kernel_rfl) (by kernel_rfl) (by kernel_rfl) (by kernel_rfl) (by kernel_rfl) (by kernel_rfl) (by kernel_rfl) (by kernel_rfl) (by kernel_rfl) (by kernel_rfl) (by kernel_rfl) ⟨by kernel_rfl, by kernel_rfl, by kernel_rfl⟩
def adJ : TI := ⟨1, 8, .other, [.bH], none⟩
theorem ao0 : aX Tryz.prog 37 adJ := ag (by kernel_rfl) (by kernel_rfl) (by kernel_rfl) (by kernel_rfl) (by kernel_rfl) (by kernel_rfl) (by kernel_rfl) (by kernel_rfl) (by kernel_rfl) (by kernel_rfl) (by kernel_rfl) trivial
def adI : TI := ⟨1, 8, .other, [.bH], none⟩
theorem aoZ : aX Tryz.prog 38 adI := ag (by kernel_rfl) (by kernel_rfl) (by kernel_rfl) (by kernel_rfl) (by kernel_rfl) (by kernel_rfl) (by kernel_rfl) (by kernel_rfl) (by kernel_rfl) (by kernel_rfl) (by kernel_rfl) trivial
def adH : TI := ⟨1, 8, .int .u64, [.u64 0], some .u64⟩
theorem aoY : aX Tryz.prog 39 adH := ag (by kernel_rfl) (by kernel_rfl) (by kernel_rfl) (by kernel_rfl) (by kernel_rfl) (by kernel_rfl) (by kernel_rfl) (by kernel_rfl) (by kernel_rfl) (by kernel_rfl) (by kernel_rfl) ⟨by kernel_rfl, by kernel_rfl, by kernel_rfl⟩
def adG : TI := ⟨4, 32, .array 4 39, [.u64 0, .u64 0, .u64 0, .u64 0], some .elem⟩
theorem aoX : aX Tryz.prog 40 adG := ag (by kernel_rfl) (by kernel_rfl) (by kernel_rfl) (by kernel_rfl) (by kernel_rfl) (by kernel_rfl) (by kernel_rfl) (by kernel_rfl) (by kernel_rfl) (by kernel_rfl) (by kernel_rfl) ⟨by kernel_rfl, by kernel_rfl, by kernel_rfl⟩
def adF : TI := ⟨4, 32, .array 4 39, [.u64 0, .u64 0, .u64 0, .u64 0], some .elem⟩
theorem aoW : aX Tryz.prog 41 adF := ag (by kernel_rfl) (by kernel_rfl) (by kernel_rfl) (by kernel_rfl) (by kernel_rfl) (by kernel_rfl) (by kernel_rfl) (by kernel_rfl) (by kernel_rfl) (by kernel_rfl) (by kernel_rfl) ⟨by kernel_rfl, by kernel_rfl, by kernel_rfl⟩
def adE : TI := ⟨9, 72, .struct [(0, 41), (4, 41), (8, 4)], [.u64 0, .u64 0, .u64 0, .u64 0, .u64 0, .u64 0, .u64 0, .u64 0, .bool false], some (.prod .elem (.prod .elem .bool))⟩
theorem aoV : aX Tryz.prog 42 adE := ag (by kernel_rfl) (by kernel_rfl) (by kernel_rfl) (by kernel_rfl) (by kernel_rfl) (by kernel_rfl) (by kernel_rfl) (by kernel_rfl) (by kernel_rfl) (by kernel_rfl) (by kernel_rfl) ⟨by kernel_rfl, by kernel_rfl, by kernel_rfl⟩
def adD : TI := ⟨9, 72, .struct [(0, 41), (4, 41), (8, 4)], [.u64 0, .u64 0, .u64 0, .u64 0, .u64 0, .u64 0, .u64 0, .u64 0, .bool false], some (.prod .elem (.prod .elem .bool))⟩
theorem aoU : aX Tryz.prog 43 adD := ag (by kernel_rfl) (by kernel_rfl) (by kernel_rfl) (by kernel_rfl) (by kernel_rfl) (by kernel_rfl) (by kernel_rfl) (by kernel_rfl) (by kernel_rfl) (by kernel_rfl) (by kernel_rfl) ⟨by kernel_rfl, by kernel_rfl, by kernel_rfl⟩
def adC : TI := ⟨14, 112, .struct [(0, 3), (1, 41), (5, 43)], [.int 0, .u64 0, .u64 0, .u64 0, .u64 0, .u64 0, .u64 0, .u64 0, .u64 0, .u64 0, .u64 0, .u64 0, .u64 0, .bool false], some (.prod .int (.prod .elem (.prod .elem (.prod .elem .bool))))⟩
theorem aoT : aX Tryz.prog 44 adC := ag (by kernel_rfl) (by kernel_rfl) (by kernel_rfl) (by kernel_rfl) (by kernel_rfl) (by kernel_rfl) (by kernel_rfl) (by kernel_rfl) (by kernel_rfl) (by kernel_rfl) (by kernel_rfl) ⟨by kernel_rfl, by kernel_rfl, by kernel_rfl⟩
def adB : TI := ⟨14, 112, .struct [(0, 3), (1, 41), (5, 43)], [.int 0, .u64 0, .u64 0, .u64 0, .u64 0, .u64 0, .u64 0, .u64 0, .u64 0, .u64 0, .u64 0, .u64 0, .u64 0, .bool false], some (.prod .int (.prod .elem (.prod .elem (.prod .elem .bool))))⟩
theorem aoS : aX Tryz.prog 45 adB := ag (by kernel_rfl) (by kernel_rfl) (by kernel_rfl) (by kernel_rfl) (by kernel_rfl) (by kernel_rfl) (by kernel_rfl) (by kernel_rfl) (by kernel_rfl) (by kernel_rfl) (by kernel_rfl) ⟨by kernel_rfl, by kernel_rfl, by kernel_rfl⟩
def adA : TI := ⟨1, 8, .other, [.bH], none⟩
theorem aoR : aX Tryz.prog 46 adA := ag (by kernel_rfl) (by kernel_rfl) (by kernel_rfl) (by kernel_rfl) (by kernel_rfl) (by kernel_rfl) (by kernel_rfl) (by kernel_rfl) (by kernel_rfl) (by kernel_rfl) (by kernel_rfl) trivial
def adz : TI := ⟨1, 16, .iface, [.dF], none⟩
theorem aoQ : aX Tryz.prog 47 adz := ag (by kernel_rfl) (by kernel_rfl) (by kernel_rfl) (by kernel_rfl) (by kernel_rfl) (by kernel_rfl) (by kernel_rfl) (by kernel_rfl) (by kernel_rfl) (by kernel_rfl) (by kernel_rfl) trivial
def ady : TI := ⟨1, 16, .iface, [.dF], none⟩
theorem aoP : aX Tryz.prog 48 ady := ag (by kernel_rfl) (by kernel_rfl) (by kernel_rfl) (by kernel_rfl) (by kernel_rfl) (by kernel_rfl) (by kernel_rfl) (by kernel_rfl) (by kernel_rfl) (by kernel_rfl) (by kernel_rfl) trivial
def adx : TI := ⟨2, 24, .struct [(0, 3), (1, 48)], [.int 0, .dF], none⟩
theorem aoO : aX Tryz.prog 49 adx := ag (by kernel_rfl) (by kernel_rfl) (by kernel_rfl) (by kernel_rfl) (by kernel_rfl) (by kernel_rfl) (by kernel_rfl) (by kernel_rfl) (by kernel_rfl) (by kernel_rfl) (by kernel_rfl) trivial
def adw : TI := ⟨2, 24, .struct [(0, 3), (1, 48)], [.int 0, .dF], none⟩
theorem aoN : aX Tryz.prog 50 adw := ag (by kernel_rfl) (by kernel_rfl) (by kernel_rfl) (by kernel_rfl) (by kernel_rfl) (by kernel_rfl) (by kernel_rfl) (by kernel_rfl) (by kernel_rfl) (by kernel_rfl) (by kernel_rfl) trivial
def adv : TI := ⟨3, 48, .struct [(0, 50), (2, 25)], [.int 0, .dF, .emp], none⟩
theorem aoM : aX Tryz.prog 51 adv := ag (by kernel_rfl) (by kernel_rfl) (by kernel_rfl) (by kernel_rfl) (by kernel_rfl) (by kernel_rfl) (by kernel_rfl) (by kernel_rfl) (by kernel_rfl) (by kernel_rfl) (by kernel_rfl) trivial
def adu : TI := ⟨3, 48, .struct [(0, 50), (2, 25)], [.int 0, .dF, .emp], none⟩
theorem aoL : aX Tryz.prog 52 adu := ag (by kernel_rfl) (by kernel_rfl) (by kernel_rfl) (by kernel_rfl) (by kernel_rfl) (by kernel_rfl) (by kernel_rfl) (by kernel_rfl) (by kernel_rfl) (by kernel_rfl) (by kernel_rfl) trivial
def adt : TI := ⟨1, 8, .other, [.bH], none⟩
theorem aoK : aX Tryz.prog 53 adt := ag (by kernel_rfl) (by kernel_rfl) (by kernel_rfl) (by kernel_rfl) (by kernel_rfl) (by kernel_rfl) (by kernel_rfl) (by kernel_rfl) (by kernel_rfl) (by kernel_rfl) (by kernel_rfl) trivial
def ads : TI := ⟨1, 8, .other, [.bH], none⟩
theorem aoJ : aX Tryz.prog 55 ads := ag (by kernel_rfl) (by kernel_rfl) (by kernel_rfl) (by kernel_rfl) (by kernel_rfl) (by kernel_rfl) (by kernel_rfl) (by kernel_rfl) (by kernel_rfl) (by kernel_rfl) (by kernel_rfl) trivial
def adr : TI := ⟨1, 8, .other, [.bH], none⟩
theorem aoI : aX Tryz.prog 57 adr := ag (by kernel_rfl) (by kernel_rfl) (by kernel_rfl) (by kernel_rfl) (by kernel_rfl) (by kernel_rfl) (by kernel_rfl) (by kernel_rfl) (by kernel_rfl) (by kernel_rfl) (by kernel_rfl) trivial
def adq : TI := ⟨1, 8, .other, [.bH], none⟩
theorem aoH : aX Tryz.prog 59 adq := ag (by kernel_rfl) (by kernel_rfl) (by kernel_rfl) (by kernel_rfl) (by kernel_rfl) (by kernel_rfl) (by kernel_rfl) (by kernel_rfl) (by kernel_rfl) (by kernel_rfl) (by kernel_rfl) trivial
def adp : TI := ⟨1, 8, .other, [.bH], none⟩
theorem aoG : aX Tryz.prog 61 adp := ag (by kernel_rfl) (by kernel_rfl) (by kernel_rfl) (by kernel_rfl) (by kernel_rfl) (by kernel_rfl) (by kernel_rfl) (by kernel_rfl) (by kernel_rfl) (by kernel_rfl) (by kernel_rfl) trivial
def ado : TI := ⟨1, 8, .other, [.bH], none⟩
theorem aoF : aX Tryz.prog 62 ado := ag (by kernel_rfl) (by kernel_rfl) (by kernel_rfl) (by kernel_rfl) (by kernel_rfl) (by kernel_rfl) (by kernel_rfl) (by kernel_rfl) (by kernel_rfl) (by kernel_rfl) (by kernel_rfl) trivial
def adn : TI := ⟨1, 8, .other, [.bH], none⟩
theorem aoE : aX Tryz.prog 63 adn := ag (by kernel_rfl) (by kernel_rfl) (by kernel_rfl) (by kernel_rfl) (by kernel_rfl) (by kernel_rfl) (by kernel_rfl) (by kernel_rfl) (by kernel_rfl) (by kernel_rfl) (by kernel_rfl) trivial
def adm : TI := ⟨1, 8, .other, [.bH], none⟩
theorem aoD : aX Tryz.prog 64 adm := ag (by kernel_rfl) (by kernel_rfl) (by kernel_rfl) (by kernel_rfl) (by kernel_rfl) (by kernel_rfl) (by kernel_rfl) (by kernel_rfl) (by kernel_rfl) (by kernel_rfl) (by kernel_rfl) trivial
def adl : TI := ⟨1, 8, .other, [.bH], none⟩
theorem aoC : aX Tryz.prog 65 adl := ag (by kernel_rfl) (by kernel_rfl) (by kernel_rfl) (by kernel_rfl) (by kernel_rfl) (by kernel_rfl) (by kernel_rfl) (by kernel_rfl) (by kernel_rfl) (by kernel_rfl) (by kernel_rfl) trivial
def adk : TI := ⟨1, 8, .other, [.bH], none⟩
theorem aoB : aX Tryz.prog 66 adk := ag (by kernel_rfl) (by kernel_rfl) (by kernel_rfl) (by kernel_rfl) (by kernel_rfl) (by kernel_rfl) (by kernel_rfl) (by kernel_rfl) (by kernel_rfl) (by kernel_rfl) (by kernel_rfl) trivial
def adj : TI := ⟨1, 24, .slice 43, [.emp], some (.list (.prod .elem (.prod .elem .bool)))⟩
theorem aoA : aX Tryz.prog 67 adj := ag (by kernel_rfl) (by kernel_rfl) (by kernel_rfl) (by kernel_rfl) (by kernel_rfl) (by kernel_rfl) (by kernel_rfl) (by kernel_rfl) (by kernel_rfl) (by kernel_rfl) (by kernel_rfl) ⟨by kernel_rfl, by kernel_rfl, by kernel_rfl⟩
def adi : TI := ⟨21, 184, .struct [(0, 3), (1, 3), (2, 67), (3, 43), (12, 43)], [.int 0, .int 0, .emp, .u64 0, .u64 0, .u64 0, .u64 0, .u64 0, .u64 0, .u64 0, .u64 0, .bool false, .u64 0, .u64 0, .u64 0, .u64 0, .u64 0, .u64 0, .u64 0, .u64 0, .bool false], some (.prod .int (.prod .int (.prod (.list (.prod .elem (.prod .elem .bool))) (.prod (.prod .elem (.prod .elem .bool)) (.prod .elem (.prod .elem .bool))))))⟩
theorem aoz : aX Tryz.prog 68 adi := ag (by kernel_rfl) (by kernel_rfl) (by kernel_rfl) (by kernel_rfl) (by kernel_rfl) (by kernel_rfl) (by kernel_rfl) (by kernel_rfl) (by kernel_rfl) (by kernel_rfl) (by kernel_rfl) ⟨by kernel_rfl, by kernel_rfl, by kernel_rfl⟩
def adh : TI := ⟨21, 184, .struct [(0, 3), (1, 3), (2, 67), (3, 43), (12, 43)], [.int 0, .int 0, .emp, .u64 0, .u64 0, .u64 0, .u64 0, .u64 0, .u64 0, .u64 0, .u64 0, .bool false, .u64 0, .u64 0, .u64 0, .u64 0, .u64 0, .u64 0, .u64 0, .u64 0, .bool false], some (.prod .int (.prod .int (.prod (.list (.prod .elem (.prod .elem .bool))) (.prod (.prod .elem (.prod .elem .bool)) (.prod .elem (.prod .elem .bool))))))⟩
theorem aoy : aX Tryz.prog 69 adh := ag (by kernel_rfl) (by kernel_rfl) (by kernel_rfl) (by kernel_rfl) (by kernel_rfl) (by kernel_rfl) (by kernel_rfl) (by kernel_rfl) (by kernel_rfl) (by kernel_rfl) (by kernel_rfl) ⟨by kernel_rfl, by kernel_rfl, by kernel_rfl⟩
def adg : TI := ⟨1, 8, .other, [.bH], none⟩
theorem aox : aX Tryz.prog 71 adg := ag (by kernel_rfl) (by kernel_rfl) (by kernel_rfl) (by kernel_rfl) (by kernel_rfl) (by kernel_rfl) (by kernel_rfl) (by kernel_rfl) (by kernel_rfl) (by kernel_rfl) (by kernel_rfl) trivial
def adf : TI := ⟨1, 8, .other, [.bH], none⟩
theorem aow : aX Tryz.prog 72 adf := ag (by kernel_rfl) (by kernel_rfl) (by kernel_rfl) (by kernel_rfl) (by kernel_rfl) (by kernel_rfl) (by kernel_rfl) (by kernel_rfl) (by kernel_rfl) (by kernel_rfl) (by kernel_rfl) trivial
def ade : TI := ⟨1, 8, .other, [.bH], none⟩
theorem aov : aX Tryz.prog 73 ade := ag (by kernel_rfl) (by kernel_rfl) (by kernel_rfl) (by kernel_rfl) (by kernel_rfl) (by kernel_rfl) (by kernel_rfl) (by kernel_rfl) (by kernel_rfl) (by kernel_rfl) (by kernel_rfl) trivial
def adb : TI := ⟨1, 8, .other, [.bH], none⟩
theorem aou : aX Tryz.prog 74 adb := ag (by kernel_rfl) (by kernel_rfl) (by kernel_rfl) (by kernel_rfl) (by kernel_rfl) (by kernel_rfl) (by kernel_rfl) (by kernel_rfl) (by kernel_rfl) (by kernel_rfl) (by kernel_rfl) trivial
def ada : TI := ⟨1, 8, .other, [.bH], none⟩
theorem aot : aX Tryz.prog 75 ada := ag (by kernel_rfl) (by kernel_rfl) (by kernel_rfl) (by kernel_rfl) (by kernel_rfl) (by kernel_rfl) (by kernel_rfl) (by kernel_rfl) (by kernel_rfl) (by kernel_rfl) (by kernel_rfl) trivial
def ac9 : TI := ⟨1, 8, .other, [.bH], none⟩
theorem aos : aX Tryz.prog 76 ac9 := ag (by kernel_rfl) (by kernel_rfl) (by kernel_rfl) (by kernel_rfl) (by kernel_rfl) (by kernel_rfl) (by kernel_rfl) (by kernel_rfl) (by kernel_rfl) (by kernel_rfl) (by kernel_rfl) trivial
def ac8 : TI := ⟨1, 8, .other, [.bH], none⟩
theorem aor : aX Tryz.prog 77 ac8 := ag (by kernel_rfl) (by kernel_rfl) (by kernel_rfl) (by kernel_rfl) (by kernel_rfl) (by kernel_rfl) (by kernel_rfl) (by kernel_rfl) (by kernel_rfl) (by kernel_rfl) (by kernel_rfl) trivial
def ac7 : TI := ⟨1, 8, .other, [.bH], none⟩
theorem aoq : aX Tryz.prog 78 ac7 := ag (by kernel_rfl) (by kernel_rfl) (by kernel_rfl) (by kernel_rfl) (by kernel_rfl) (by kernel_rfl) (by kernel_rfl) (by kernel_rfl) (by kernel_rfl) (by kernel_rfl) (by kernel_rfl) trivial
def ac6 : TI := ⟨1, 8, .other, [.bH], none⟩
theorem aop : aX Tryz.prog 79 ac6 := ag (by kernel_rfl) (by kernel_rfl) (by kernel_rfl) (by kernel_rfl) (by kernel_rfl) (by kernel_rfl) (by kernel_rfl) (by kernel_rfl) (by kernel_rfl) (by kernel_rfl) (by kernel_rfl) trivial
def ac5 : TI := ⟨1, 8, .other, [.bH], none⟩
theorem aoo : aX Tryz.prog 80 ac5 := ag (by kernel_rfl) (by kernel_rfl) (by kernel_rfl) (by kernel_rfl) (by kernel_rfl) (by kernel_rfl) (by kernel_rfl) (by kernel_rfl) (by kernel_rfl) (by kernel_rfl) (by kernel_rfl) trivial
def ac4 : TI := ⟨1, 8, .other, [.bH], none⟩
theorem aon : aX Tryz.prog 81 ac4 := ag (by kernel_rfl) (by kernel_rfl) (by kernel_rfl) (by kernel_rfl) (by kernel_rfl) (by kernel_rfl) (by kernel_rfl) (by kernel_rfl) (by kernel_rfl) (by kernel_rfl) (by kernel_rfl) trivial
def ac3 : TI := ⟨1, 8, .other, [.bH], none⟩
theorem aom : aX Tryz.prog 82 ac3 := ag (by kernel_rfl) (by kernel_rfl) (by kernel_rfl) (by kernel_rfl) (by kernel_rfl) (by kernel_rfl) (by kernel_rfl) (by kernel_rfl) (by kernel_rfl) (by kernel_rfl) (by kernel_rfl) trivial
def ac2 : TI := ⟨1, 8, .other, [.bH], none⟩
theorem aol : aX Tryz.prog 83 ac2 := ag (by kernel_rfl) (by kernel_rfl) (by kernel_rfl) (by kernel_rfl) (by kernel_rfl) (by kernel_rfl) (by kernel_rfl) (by kernel_rfl) (by kernel_rfl) (by kernel_rfl) (by kernel_rfl) trivial
def ac1 : TI := ⟨1, 8, .other, [.bH], none⟩
theorem aok : aX Tryz.prog 84 ac1 := ag (by kernel_rfl) (by kernel_rfl) (by kernel_rfl) (by kernel_rfl) (by kernel_rfl) (by kernel_rfl) (by kernel_rfl) (by kernel_rfl) (by kernel_rfl) (by kernel_rfl) (by kernel_rfl) trivial
def ac0 : TI := ⟨1, 8, .other, [.bH], none⟩
theorem aoj : aX Tryz.prog 85 ac0 := ag (by kernel_rfl) (by kernel_rfl) (by kernel_rfl) (by kernel_rfl) (by kernel_rfl) (by kernel_rfl) (by kernel_rfl) (by kernel_rfl) (by kernel_rfl) (by kernel_rfl) (by kernel_rfl) trivial
def acZ : TI := ⟨1, 8, .int .u64, [.u64 0], some .u64⟩
theorem aoi : aX Tryz.prog 86 acZ := ag (by kernel_rfl) (by kernel_rfl) (by kernel_rfl) (by kernel_rfl) (by kernel_rfl) (by kernel_rfl) (by kernel_rfl) (by kernel_rfl) (by kernel_rfl) (by kernel_rfl) (by kernel_rfl) ⟨by kernel_rfl, by kernel_rfl, by kernel_rfl⟩
def acY : TI := ⟨1, 8, .ptr [("Bytes", 50), ("Scalar", 49), ("sigil/tape.say", 88)], [.nQ], none⟩
theorem aoh : aX Tryz.prog 87 acY := ag (by kernel_rfl) (by kernel_rfl) (by kernel_rfl) (by kernel_rfl) (by kernel_rfl) (by kernel_rfl) (by kernel_rfl) (by kernel_rfl) (by kernel_rfl) (by kernel_rfl) (by kernel_rfl) trivial
def acX : TI := ⟨1, 8, .other, [.bH], none⟩
theorem aog : aX Tryz.prog 89 acX := ag (by kernel_rfl) (by kernel_rfl) (by kernel_rfl) (by kernel_rfl) (by kernel_rfl) (by kernel_rfl) (by kernel_rfl) (by kernel_rfl) (by kernel_rfl) (by kernel_rfl) (by kernel_rfl) trivial
def acW : TI := ⟨3, 48, .struct [(0, 50), (2, 25)], [.int 0, .dF, .emp], none⟩
theorem aof : aX Tryz.prog 90 acW := ag (by kernel_rfl) (by kernel_rfl) (by kernel_rfl) (by kernel_rfl) (by kernel_rfl) (by kernel_rfl) (by kernel_rfl) (by kernel_rfl) (by kernel_rfl) (by kernel_rfl) (by kernel_rfl) trivial
def acV : TI := ⟨3, 48, .struct [(0, 50), (2, 25)], [.int 0, .dF, .emp], none⟩
theorem aoe : aX Tryz.prog 91 acV := ag (by kernel_rfl) (by kernel_rfl) (by kernel_rfl) (by kernel_rfl) (by kernel_rfl) (by kernel_rfl) (by kernel_rfl) (by kernel_rfl) (by kernel_rfl) (by kernel_rfl) (by kernel_rfl) trivial
def acU : TI := ⟨1, 8, .other, [.bH], none⟩
theorem aod : aX Tryz.prog 92 acU := ag (by kernel_rfl) (by kernel_rfl) (by kernel_rfl) (by kernel_rfl) (by kernel_rfl) (by kernel_rfl) (by kernel_rfl) (by kernel_rfl) (by kernel_rfl) (by kernel_rfl) (by kernel_rfl) trivial
def acT : TI := ⟨1, 8, .other, [.bH], none⟩
theorem aoc : aX Tryz.prog 94 acT := ag (by kernel_rfl) (by kernel_rfl) (by kernel_rfl) (by kernel_rfl) (by kernel_rfl) (by kernel_rfl) (by kernel_rfl) (by kernel_rfl) (by kernel_rfl) (by kernel_rfl) (by kernel_rfl) trivial
def acS : TI := ⟨1, 8, .ptr [("Challenge", 24), ("Curve", 26), ("Hear", 17)], [.nQ], none⟩
theorem aob : aX Tryz.prog 95 acS := ag (by kernel_rfl) (by kernel_rfl) (by kernel_rfl) (by kernel_rfl) (by kernel_rfl) (by kernel_rfl) (by kernel_rfl) (by kernel_rfl) (by kernel_rfl) (by kernel_rfl) (by kernel_rfl) trivial
def acR : TI := ⟨1, 8, .other, [.bH], none⟩
theorem aoa : aX Tryz.prog 96 acR := ag (by kernel_rfl) (by kernel_rfl) (by kernel_rfl) (by kernel_rfl) (by kernel_rfl) (by kernel_rfl) (by kernel_rfl) (by kernel_rfl) (by kernel_rfl) (by kernel_rfl) (by kernel_rfl) trivial
def acQ : TI := ⟨1, 8, .other, [.bH], none⟩
theorem an9 : aX Tryz.prog 97 acQ := ag (by kernel_rfl) (by kernel_rfl) (by kernel_rfl) (by kernel_rfl) (by kernel_rfl) (by kernel_rfl) (by kernel_rfl) (by kernel_rfl) (by kernel_rfl) (by kernel_rfl) (by kernel_rfl) trivial
def acP : TI := ⟨1, 8, .other, [.bH], none⟩
theorem an8 : aX Tryz.prog 98 acP := ag (by kernel_rfl) (by kernel_rfl) (by kernel_rfl) (by kernel_rfl) (by kernel_rfl) (by kernel_rfl) (by kernel_rfl) (by kernel_rfl) (by kernel_rfl) (by kernel_rfl) (by kernel_rfl) trivial
def acO : TI := ⟨1, 8, .other, [.bH], none⟩
theorem an7 : aX Tryz.prog 99 acO := ag (by kernel_rfl) (by kernel_rfl) (by kernel_rfl) (by kernel_rfl) (by kernel_rfl) (by kernel_rfl) (by kernel_rfl) (by kernel_rfl) (by kernel_rfl) (by kernel_rfl) (by kernel_rfl) trivial
def Wz : TI := ⟨1, 8, .other, [.bH], none⟩
theorem akA : aX Tryz.prog 100 Wz := ag (by kernel_rfl) (by kernel_rfl) (by kernel_rfl) (by kernel_rfl) (by kernel_rfl) (by kernel_rfl) (by kernel_rfl) (by kernel_rfl) (by kernel_rfl) (by kernel_rfl) (by kernel_rfl) trivial
def Wy : TI := ⟨1, 8, .other, [.bH], none⟩
theorem akz : aX Tryz.prog 101 Wy := ag (by kernel_rfl) (by kernel_rfl) (by kernel_rfl) (by kernel_rfl) (by kernel_rfl) (by kernel_rfl) (by kernel_rfl) (by kernel_rfl) (by kernel_rfl) (by kernel_rfl) (by kernel_rfl) trivial
def Wx : TI := ⟨1, 8, .other, [.bH], none⟩
theorem aky : aX Tryz.prog 102 Wx := ag (by kernel_rfl) (by kernel_rfl) (by kernel_rfl) (by kernel_rfl) (by kernel_rfl) (by kernel_rfl) (by kernel_rfl) (by kernel_rfl) (by kernel_rfl) (by kernel_rfl) (by kernel_rfl) trivial
def Ww : TI := ⟨1, 8, .other, [.bH], none⟩
theorem akx : aX Tryz.prog 103 Ww := ag (by kernel_rfl) (by kernel_rfl) (by kernel_rfl) (by kernel_rfl) (by kernel_rfl) (by kernel_rfl) (by kernel_rfl) (by kernel_rfl) (by kernel_rfl) (by kernel_rfl) (by kernel_rfl) trivial
def Wv : TI := ⟨1, 8, .other, [.bH], none⟩
theorem akw : aX Tryz.prog 105 Wv := ag (by kernel_rfl) (by kernel_rfl) (by kernel_rfl) (by kernel_rfl) (by kernel_rfl) (by kernel_rfl) (by kernel_rfl) (by kernel_rfl) (by kernel_rfl) (by kernel_rfl) (by kernel_rfl) trivial
def Wu : TI := ⟨1, 8, .other, [.bH], none⟩
theorem akv : aX Tryz.prog 106 Wu := ag (by kernel_rfl) (by kernel_rfl) (by kernel_rfl) (by kernel_rfl) (by kernel_rfl) (by kernel_rfl) (by kernel_rfl) (by kernel_rfl) (by kernel_rfl) (by kernel_rfl) (by kernel_rfl) trivial
def Wt : TI := ⟨1, 8, .other, [.bH], none⟩
theorem aku : aX Tryz.prog 107 Wt := ag (by kernel_rfl) (by kernel_rfl) (by kernel_rfl) (by kernel_rfl) (by kernel_rfl) (by kernel_rfl) (by kernel_rfl) (by kernel_rfl) (by kernel_rfl) (by kernel_rfl) (by kernel_rfl) trivial
def Ws : TI := ⟨1, 8, .other, [.bH], none⟩
theorem akt : aX Tryz.prog 108 Ws := ag (by kernel_rfl) (by kernel_rfl) (by kernel_rfl) (by kernel_rfl) (by kernel_rfl) (by kernel_rfl) (by kernel_rfl) (by kernel_rfl) (by kernel_rfl) (by kernel_rfl) (by kernel_rfl) trivial
def Wr : TI := ⟨1, 8, .other, [.bH], none⟩
theorem aks : aX Tryz.prog 109 Wr := ag (by kernel_rfl) (by kernel_rfl) (by kernel_rfl) (by kernel_rfl) (by kernel_rfl) (by kernel_rfl) (by kernel_rfl) (by kernel_rfl) (by kernel_rfl) (by kernel_rfl) (by kernel_rfl) trivial
def Wq : TI := ⟨1, 8, .other, [.bH], none⟩
theorem akr : aX Tryz.prog 110 Wq := ag (by kernel_rfl) (by kernel_rfl) (by kernel_rfl) (by kernel_rfl) (by kernel_rfl) (by kernel_rfl) (by kernel_rfl) (by kernel_rfl) (by kernel_rfl) (by kernel_rfl) (by kernel_rfl) trivial
def Wp : TI := ⟨13, 104, .struct [(0, 41), (4, 43)], [.u64 0, .u64 0, .u64 0, .u64 0, .u64 0, .u64 0, .u64 0, .u64 0, .u64 0, .u64 0, .u64 0, .u64 0, .bool false], some (.prod .elem (.prod .elem (.prod .elem .bool)))⟩
theorem akq : aX Tryz.prog 111 Wp := ag (by kernel_rfl) (by kernel_rfl) (by kernel_rfl) (by kernel_rfl) (by kernel_rfl) (by kernel_rfl) (by kernel_rfl) (by kernel_rfl) (by kernel_rfl) (by kernel_rfl) (by kernel_rfl) ⟨by kernel_rfl, by kernel_rfl, by kernel_rfl⟩
def Wo : TI := ⟨13, 104, .struct [(0, 41), (4, 43)], [.u64 0, .u64 0, .u64 0, .u64 0, .u64 0, .u64 0, .u64 0, .u64 0, .u64 0, .u64 0, .u64 0, .u64 0, .bool false], some (.prod .elem (.prod .elem (.prod .elem .bool)))⟩
theorem akp : aX Tryz.prog 112 Wo := ag (by kernel_rfl) (by kernel_rfl) (by kernel_rfl) (by kernel_rfl) (by kernel_rfl) (by kernel_rfl) (by kernel_rfl) (by kernel_rfl) (by kernel_rfl) (by kernel_rfl) (by kernel_rfl) ⟨by kernel_rfl, by kernel_rfl, by kernel_rfl⟩
def Wn : TI := ⟨1, 24, .slice 112, [.emp], some (.list (.prod .elem (.prod .elem (.prod .elem .bool))))⟩
theorem ako : aX Tryz.prog 113 Wn := ag (by kernel_rfl) (by kernel_rfl) (by kernel_rfl) (by kernel_rfl) (by kernel_rfl) (by kernel_rfl) (by kernel_rfl) (by kernel_rfl) (by kernel_rfl) (by kernel_rfl) (by kernel_rfl) ⟨by kernel_rfl, by kernel_rfl, by kernel_rfl⟩
def Wm : TI := ⟨1, 8, .other, [.bH], none⟩
theorem akn : aX Tryz.prog 114 Wm := ag (by kernel_rfl) (by kernel_rfl) (by kernel_rfl) (by kernel_rfl) (by kernel_rfl) (by kernel_rfl) (by kernel_rfl) (by kernel_rfl) (by kernel_rfl) (by kernel_rfl) (by kernel_rfl) trivial
def Wl : TI := ⟨1, 8, .other, [.bH], none⟩
theorem akm : aX Tryz.prog 115 Wl := ag (by kernel_rfl) (by kernel_rfl) (by kernel_rfl) (by kernel_rfl) (by kernel_rfl) (by kernel_rfl) (by kernel_rfl) (by kernel_rfl) (by kernel_rfl) (by kernel_rfl) (by kernel_rfl) trivial
def Wk : TI := ⟨11, 88, .struct [(0, 41), (4, 3), (5, 39), (6, 39), (7, 41)], [.u64 0, .u64 0, .u64 0, .u64 0, .int 0, .u64 0, .u64 0, .u64 0, .u64 0, .u64 0, .u64 0], some (.prod .elem (.prod .int (.prod .u64 (.prod .u64 .elem))))⟩
theorem akl : aX Tryz.prog 116 Wk := ag (by kernel_rfl) (by kernel_rfl) (by kernel_rfl) (by kernel_rfl) (by kernel_rfl) (by kernel_rfl) (by kernel_rfl) (by kernel_rfl) (by kernel_rfl) (by kernel_rfl) (by kernel_rfl) ⟨by kernel_rfl, by kernel_rfl, by kernel_rfl⟩
def Wj : TI := ⟨11, 88, .struct [(0, 41), (4, 3), (5, 39), (6, 39), (7, 41)], [.u64 0, .u64 0, .u64 0, .u64 0, .int 0, .u64 0, .u64 0, .u64 0, .u64 0, .u64 0, .u64 0], some (.prod .elem (.prod .int (.prod .u64 (.prod .u64 .elem))))⟩
theorem akk : aX Tryz.prog 117 Wj := ag (by kernel_rfl) (by kernel_rfl) (by kernel_rfl) (by kernel_rfl) (by kernel_rfl) (by kernel_rfl) (by kernel_rfl) (by kernel_rfl) (by kernel_rfl) (by kernel_rfl) (by kernel_rfl) ⟨by kernel_rfl, by kernel_rfl, by kernel_rfl⟩
def Wi : TI := ⟨1, 8, .other, [.bH], none⟩
theorem akj : aX Tryz.prog 119 Wi := ag (by kernel_rfl) (by kernel_rfl) (by kernel_rfl) (by kernel_rfl) (by kernel_rfl) (by kernel_rfl) (by kernel_rfl) (by kernel_rfl) (by kernel_rfl) (by kernel_rfl) (by kernel_rfl) trivial
def Wh : TI := ⟨1, 8, .other, [.bH], none⟩
theorem aki : aX Tryz.prog 120 Wh := ag (by kernel_rfl) (by kernel_rfl) (by kernel_rfl) (by kernel_rfl) (by kernel_rfl) (by kernel_rfl) (by kernel_rfl) (by kernel_rfl) (by kernel_rfl) (by kernel_rfl) (by kernel_rfl) trivial
def Wg : TI := ⟨1, 8, .other, [.bH], none⟩
theorem akh : aX Tryz.prog 121 Wg := ag (by kernel_rfl) (by kernel_rfl) (by kernel_rfl) (by kernel_rfl) (by kernel_rfl) (by kernel_rfl) (by kernel_rfl) (by kernel_rfl) (by kernel_rfl) (by kernel_rfl) (by kernel_rfl) trivial
def Wf : TI := ⟨1, 8, .int .i64, [.int 0], some .int⟩
theorem akg : aX Tryz.prog 122 Wf := ag (by kernel_rfl) (by kernel_rfl) (by kernel_rfl) (by kernel_rfl) (by kernel_rfl) (by kernel_rfl) (by kernel_rfl) (by kernel_rfl) (by kernel_rfl) (by kernel_rfl) (by kernel_rfl) ⟨by kernel_rfl, by kernel_rfl, by kernel_rfl⟩
def We : TI := ⟨1, 8, .other, [.bH], none⟩
theorem akf : aX Tryz.prog 123 We := ag (by kernel_rfl) (by kernel_rfl) (by kernel_rfl) (by kernel_rfl) (by kernel_rfl) (by kernel_rfl) (by kernel_rfl) (by kernel_rfl) (by kernel_rfl) (by kernel_rfl) (by kernel_rfl) trivial
def Wd : TI := ⟨12, 96, .struct [(0, 41), (4, 41), (8, 41)], List.replicate 12 (.u64 0), some (.prod .elem (.prod .elem .elem))⟩
theorem ake : aX Tryz.prog 124 Wd := ag (by kernel_rfl) (by kernel_rfl) (by kernel_rfl) (by kernel_rfl) (by kernel_rfl) (by kernel_rfl) (by kernel_rfl) (by kernel_rfl) (by kernel_rfl) (by kernel_rfl) (by kernel_rfl) ⟨by kernel_rfl, by kernel_rfl, by kernel_rfl⟩
def Wc : TI := ⟨12, 96, .struct [(0, 41), (4, 41), (8, 41)], List.replicate 12 (.u64 0), some (.prod .elem (.prod .elem .elem))⟩
theorem akd : aX Tryz.prog 125 Wc := ag (by kernel_rfl) (by kernel_rfl) (by kernel_rfl) (by kernel_rfl) (by kernel_rfl) (by kernel_rfl) (by kernel_rfl) (by kernel_rfl) (by kernel_rfl) (by kernel_rfl) (by kernel_rfl) ⟨by kernel_rfl, by kernel_rfl, by kernel_rfl⟩
def Wb : TI := ⟨1, 8, .other, [.bH], none⟩
theorem akc : aX Tryz.prog 126 Wb := ag (by kernel_rfl) (by kernel_rfl) (by kernel_rfl) (by kernel_rfl) (by kernel_rfl) (by kernel_rfl) (by kernel_rfl) (by kernel_rfl) (by kernel_rfl) (by kernel_rfl) (by kernel_rfl) trivial
def Wa : TI := ⟨1, 8, .other, [.bH], none⟩
theorem akb : aX Tryz.prog 127 Wa := ag (by kernel_rfl) (by kernel_rfl) (by kernel_rfl) (by kernel_rfl) (by kernel_rfl) (by kernel_rfl) (by kernel_rfl) (by kernel_rfl) (by kernel_rfl) (by kernel_rfl) (by kernel_rfl) trivial
def V9 : TI := ⟨1, 8, .other, [.bH], none⟩
theorem aka : aX Tryz.prog 128 V9 := ag (by kernel_rfl) (by kernel_rfl) (by kernel_rfl) (by kernel_rfl) (by kernel_rfl) (by kernel_rfl) (by kernel_rfl) (by kernel_rfl) (by kernel_rfl) (by kernel_rfl) (by kernel_rfl) trivial
def V8 : TI := ⟨1, 8, .other, [.bH], none⟩
theorem aj9 : aX Tryz.prog 129 V8 := ag (by kernel_rfl) (by kernel_rfl) (by kernel_rfl) (by kernel_rfl) (by kernel_rfl) (by kernel_rfl) (by kernel_rfl) (by kernel_rfl) (by kernel_rfl) (by kernel_rfl) (by kernel_rfl) trivial
def V7 : TI := ⟨1, 8, .other, [.bH], none⟩
theorem aj8 : aX Tryz.prog 131 V7 := ag (by kernel_rfl) (by kernel_rfl) (by kernel_rfl) (by kernel_rfl) (by kernel_rfl) (by kernel_rfl) (by kernel_rfl) (by kernel_rfl) (by kernel_rfl) (by kernel_rfl) (by kernel_rfl) trivial
def V6 : TI := ⟨1, 8, .other, [.bH], none⟩
theorem aj7 : aX Tryz.prog 132 V6 := ag (by kernel_rfl) (by kernel_rfl) (by kernel_rfl) (by kernel_rfl) (by kernel_rfl) (by kernel_rfl) (by kernel_rfl) (by kernel_rfl) (by kernel_rfl) (by kernel_rfl) (by kernel_rfl) trivial
def V5 : TI := ⟨1, 8, .ptr [("sigil/tape.next", 191), ("sigil/tape.take", 192)], [.nQ], none⟩
theorem aj6 : aX Tryz.prog 133 V5 := ag (by kernel_rfl) (by kernel_rfl) (by kernel_rfl) (by kernel_rfl) (by kernel_rfl) (by kernel_rfl) (by kernel_rfl) (by kernel_rfl) (by kernel_rfl) (by kernel_rfl) (by kernel_rfl) trivial
def V4 : TI := ⟨1, 24, .struct [(0, 22)], [.emp], some (.list .elem)⟩
theorem aj5 : aX Tryz.prog 134 V4 := ag (by kernel_rfl) (by kernel_rfl) (by kernel_rfl) (by kernel_rfl) (by kernel_rfl) (by kernel_rfl) (by kernel_rfl) (by kernel_rfl) (by kernel_rfl) (by kernel_rfl) (by kernel_rfl) ⟨by kernel_rfl, by kernel_rfl, by kernel_rfl⟩
def V3 : TI := ⟨1, 24, .struct [(0, 22)], [.emp], some (.list .elem)⟩
theorem aj4 : aX Tryz.prog 135 V3 := ag (by kernel_rfl) (by kernel_rfl) (by kernel_rfl) (by kernel_rfl) (by kernel_rfl) (by kernel_rfl) (by kernel_rfl) (by kernel_rfl) (by kernel_rfl) (by kernel_rfl) (by kernel_rfl) ⟨by kernel_rfl, by kernel_rfl, by kernel_rfl⟩
def V2 : TI := ⟨2, 32, .struct [(0, 3), (1, 135)], [.int 0, .emp], some (.prod .int (.list .elem))⟩
theorem aj3 : aX Tryz.prog 136 V2 := ag (by kernel_rfl) (by kernel_rfl) (by kernel_rfl) (by kernel_rfl) (by kernel_rfl) (by kernel_rfl) (by kernel_rfl) (by kernel_rfl) (by kernel_rfl) (by kernel_rfl) (by kernel_rfl) ⟨by kernel_rfl, by kernel_rfl, by kernel_rfl⟩
def V1 : TI := ⟨2, 32, .struct [(0, 3), (1, 135)], [.int 0, .emp], some (.prod .int (.list .elem))⟩
theorem aj2 : aX Tryz.prog 137 V1 := ag (by kernel_rfl) (by kernel_rfl) (by kernel_rfl) (by kernel_rfl) (by kernel_rfl) (by kernel_rfl) (by kernel_rfl) (by kernel_rfl) (by kernel_rfl) (by kernel_rfl) (by kernel_rfl) ⟨by kernel_rfl, by kernel_rfl, by kernel_rfl⟩
def V0 : TI := ⟨1, 8, .ptr [("Sum", 110), ("Write", 109)], [.nQ], none⟩
theorem aj1 : aX Tryz.prog 138 V0 := ag (by kernel_rfl) (by kernel_rfl) (by kernel_rfl) (by kernel_rfl) (by kernel_rfl) (by kernel_rfl) (by kernel_rfl) (by kernel_rfl) (by kernel_rfl) (by kernel_rfl) (by kernel_rfl) trivial
def VZ : TI := ⟨1, 8, .other, [.bH], none⟩
theorem aj0 : aX Tryz.prog 140 VZ := ag (by kernel_rfl) (by kernel_rfl) (by kernel_rfl) (by kernel_rfl) (by kernel_rfl) (by kernel_rfl) (by kernel_rfl) (by kernel_rfl) (by kernel_rfl) (by kernel_rfl) (by kernel_rfl) trivial
def VY : TI := ⟨1, 8, .ptr [("sigil/tape.next", 194), ("sigil/tape.take", 195)], [.nQ], none⟩
theorem ajZ : aX Tryz.prog 141 VY := ag (by kernel_rfl) (by kernel_rfl) (by kernel_rfl) (by kernel_rfl) (by kernel_rfl) (by kernel_rfl) (by kernel_rfl) (by kernel_rfl) (by kernel_rfl) (by kernel_rfl) (by kernel_rfl) trivial
def VX : TI := ⟨2, 16, .struct [(0, 3), (1, 138)], [.int 0, .nQ], none⟩
theorem ajY : aX Tryz.prog 142 VX := ag (by kernel_rfl) (by kernel_rfl) (by kernel_rfl) (by kernel_rfl) (by kernel_rfl) (by kernel_rfl) (by kernel_rfl) (by kernel_rfl) (by kernel_rfl) (by kernel_rfl) (by kernel_rfl) trivial
def VW : TI := ⟨2, 16, .struct [(0, 3), (1, 138)], [.int 0, .nQ], none⟩
theorem ajX : aX Tryz.prog 143 VW := ag (by kernel_rfl) (by kernel_rfl) (by kernel_rfl) (by kernel_rfl) (by kernel_rfl) (by kernel_rfl) (by kernel_rfl) (by kernel_rfl) (by kernel_rfl) (by kernel_rfl) (by kernel_rfl) trivial
def VV : TI := ⟨1, 8, .other, [.bH], none⟩
theorem ajW : aX Tryz.prog 144 VV := ag (by kernel_rfl) (by kernel_rfl) (by kernel_rfl) (by kernel_rfl) (by kernel_rfl) (by kernel_rfl) (by kernel_rfl) (by kernel_rfl) (by kernel_rfl) (by kernel_rfl) (by kernel_rfl) trivial
def VU : TI := ⟨1, 8, .other, [.bH], none⟩
theorem ajV : aX Tryz.prog 145 VU := ag (by kernel_rfl) (by kernel_rfl) (by kernel_rfl) (by kernel_rfl) (by kernel_rfl) (by kernel_rfl) (by kernel_rfl) (by kernel_rfl) (by kernel_rfl) (by kernel_rfl) (by kernel_rfl) trivial
def VT : TI := ⟨1, 8, .other, [.bH], none⟩
theorem ajU : aX Tryz.prog 146 VT := ag (by kernel_rfl) (by kernel_rfl) (by kernel_rfl) (by kernel_rfl) (by kernel_rfl) (by kernel_rfl) (by kernel_rfl) (by kernel_rfl) (by kernel_rfl) (by kernel_rfl) (by kernel_rfl) trivial
def VS : TI := ⟨1, 8, .other, [.bH], none⟩
theorem ajT : aX Tryz.prog 147 VS := ag (by kernel_rfl) (by kernel_rfl) (by kernel_rfl) (by kernel_rfl) (by kernel_rfl) (by kernel_rfl) (by kernel_rfl) (by kernel_rfl) (by kernel_rfl) (by kernel_rfl) (by kernel_rfl) trivial
def VR : TI := ⟨8, 64, .array 8 39, [.u64 0, .u64 0, .u64 0, .u64 0, .u64 0, .u64 0, .u64 0, .u64 0], some (.arr 8 .u64)⟩
theorem ajS : aX Tryz.prog 148 VR := ag (by kernel_rfl) (by kernel_rfl) (by kernel_rfl) (by kernel_rfl) (by kernel_rfl) (by kernel_rfl) (by kernel_rfl) (by kernel_rfl) (by kernel_rfl) (by kernel_rfl) (by kernel_rfl) ⟨by kernel_rfl, by kernel_rfl, by kernel_rfl⟩
def VQ : TI := ⟨1, 8, .other, [.bH], none⟩
theorem ajR : aX Tryz.prog 149 VQ := ag (by kernel_rfl) (by kernel_rfl) (by kernel_rfl) (by kernel_rfl) (by kernel_rfl) (by kernel_rfl) (by kernel_rfl) (by kernel_rfl) (by kernel_rfl) (by kernel_rfl) (by kernel_rfl) trivial
def VP : TI := ⟨1, 8, .other, [.bH], none⟩
theorem ajQ : aX Tryz.prog 150 VP := ag (by kernel_rfl) (by kernel_rfl) (by kernel_rfl) (by kernel_rfl) (by kernel_rfl) (by kernel_rfl) (by kernel_rfl) (by kernel_rfl) (by kernel_rfl) (by kernel_rfl) (by kernel_rfl) trivial
def VO : TI := ⟨1, 8, .other, [.bH], none⟩
theorem ajP : aX Tryz.prog 151 VO := ag (by kernel_rfl) (by kernel_rfl) (by kernel_rfl) (by kernel_rfl) (by kernel_rfl) (by kernel_rfl) (by kernel_rfl) (by kernel_rfl) (by kernel_rfl) (by kernel_rfl) (by kernel_rfl) trivial
def VN : TI := ⟨1, 8, .other, [.bH], none⟩
theorem ajO : aX Tryz.prog 152 VN := ag (by kernel_rfl) (by kernel_rfl) (by kernel_rfl) (by kernel_rfl) (by kernel_rfl) (by kernel_rfl) (by kernel_rfl) (by kernel_rfl) (by kernel_rfl) (by kernel_rfl) (by kernel_rfl) trivial
def VM : TI := ⟨1, 8, .other, [.bH], none⟩
theorem ajN : aX Tryz.prog 153 VM := ag (by kernel_rfl) (by kernel_rfl) (by kernel_rfl) (by kernel_rfl) (by kernel_rfl) (by kernel_rfl) (by kernel_rfl) (by kernel_rfl) (by kernel_rfl) (by kernel_rfl) (by kernel_rfl) trivial
def VL : TI := ⟨1, 8, .other, [.bH], none⟩
theorem ajM : aX Tryz.prog 154 VL := ag (by kernel_rfl) (by kernel_rfl) (by kernel_rfl) (by kernel_rfl) (by kernel_rfl) (by kernel_rfl) (by kernel_rfl) (by kernel_rfl) (by kernel_rfl) (by kernel_rfl) (by kernel_rfl) trivial
def VK : TI := ⟨1, 8, .other, [.bH], none⟩
theorem ajL : aX Tryz.prog 155 VK := ag (by kernel_rfl) (by kernel_rfl) (by kernel_rfl) (by kernel_rfl) (by kernel_rfl) (by kernel_rfl) (by kernel_rfl) (by kernel_rfl) (by kernel_rfl) (by kernel_rfl) (by kernel_rfl) trivial
def VJ : TI := ⟨1, 8, .ptr [("Add", 115), ("Scale", 196), ("Value", 116)], [.nQ], none⟩
theorem ajK : aX Tryz.prog 156 VJ := ag (by kernel_rfl) (by kernel_rfl) (by kernel_rfl) (by kernel_rfl) (by kernel_rfl) (by kernel_rfl) (by kernel_rfl) (by kernel_rfl) (by kernel_rfl) (by kernel_rfl) (by kernel_rfl) trivial
def VI : TI := ⟨1, 8, .other, [.bH], none⟩
theorem ajJ : aX Tryz.prog 158 VI := ag (by kernel_rfl) (by kernel_rfl) (by kernel_rfl) (by kernel_rfl) (by kernel_rfl) (by kernel_rfl) (by kernel_rfl) (by kernel_rfl) (by kernel_rfl) (by kernel_rfl) (by kernel_rfl) trivial
def VH : TI := ⟨1, 8, .other, [.bH], none⟩
theorem ajI : aX Tryz.prog 159 VH := ag (by kernel_rfl) (by kernel_rfl) (by kernel_rfl) (by kernel_rfl) (by kernel_rfl) (by kernel_rfl) (by kernel_rfl) (by kernel_rfl) (by kernel_rfl) (by kernel_rfl) (by kernel_rfl) trivial
def VG : TI := ⟨1, 8, .other, [.bH], none⟩
theorem ajH : aX Tryz.prog 160 VG := ag (by kernel_rfl) (by kernel_rfl) (by kernel_rfl) (by kernel_rfl) (by kernel_rfl) (by kernel_rfl) (by kernel_rfl) (by kernel_rfl) (by kernel_rfl) (by kernel_rfl) (by kernel_rfl) trivial
def VF : TI := ⟨1, 8, .other, [.bH], none⟩
theorem ajG : aX Tryz.prog 161 VF := ag (by kernel_rfl) (by kernel_rfl) (by kernel_rfl) (by kernel_rfl) (by kernel_rfl) (by kernel_rfl) (by kernel_rfl) (by kernel_rfl) (by kernel_rfl) (by kernel_rfl) (by kernel_rfl) trivial
def VE : TI := ⟨1, 8, .other, [.bH], none⟩
theorem ajF : aX Tryz.prog 162 VE := ag (by kernel_rfl) (by kernel_rfl) (by kernel_rfl) (by kernel_rfl) (by kernel_rfl) (by kernel_rfl) (by kernel_rfl) (by kernel_rfl) (by kernel_rfl) (by kernel_rfl) (by kernel_rfl) trivial
def VD : TI := ⟨11, 104, .struct [(0, 3), (1, 148), (9, 25), (10, 39)], [.int 0, .u64 0, .u64 0, .u64 0, .u64 0, .u64 0, .u64 0, .u64 0, .u64 0, .emp, .u64 0], some (.prod .int (.prod (.arr 8 .u64) (.prod (.list .u8) .u64)))⟩
theorem ajE : aX Tryz.prog 163 VD := ag (by kernel_rfl) (by kernel_rfl) (by kernel_rfl) (by kernel_rfl) (by kernel_rfl) (by kernel_rfl) (by kernel_rfl) (by kernel_rfl) (by kernel_rfl) (by kernel_rfl) (by kernel_rfl) ⟨by kernel_rfl, by kernel_rfl, by kernel_rfl⟩
def VC : TI := ⟨11, 104, .struct [(0, 3), (1, 148), (9, 25), (10, 39)], [.int 0, .u64 0, .u64 0, .u64 0, .u64 0, .u64 0, .u64 0, .u64 0, .u64 0, .emp, .u64 0], some (.prod .int (.prod (.arr 8 .u64) (.prod (.list .u8) .u64)))⟩
theorem ajD : aX Tryz.prog 164 VC := ag (by kernel_rfl) (by kernel_rfl) (by kernel_rfl) (by kernel_rfl) (by kernel_rfl) (by kernel_rfl) (by kernel_rfl) (by kernel_rfl) (by kernel_rfl) (by kernel_rfl) (by kernel_rfl) ⟨by kernel_rfl, by kernel_rfl, by kernel_rfl⟩
def VB : TI := ⟨16, 16, .array 16 5, List.replicate 16 (.u8 0), some (.arr 16 .u8)⟩
theorem ajC : aX Tryz.prog 165 VB := ag (by kernel_rfl) (by kernel_rfl) (by kernel_rfl) (by kernel_rfl) (by kernel_rfl) (by kernel_rfl) (by kernel_rfl) (by kernel_rfl) (by kernel_rfl) (by kernel_rfl) (by kernel_rfl) ⟨by kernel_rfl, by kernel_rfl, by kernel_rfl⟩
def VA : TI := ⟨1, 8, .other, [.bH], none⟩
theorem ajB : aX Tryz.prog 166 VA := ag (by kernel_rfl) (by kernel_rfl) (by kernel_rfl) (by kernel_rfl) (by kernel_rfl) (by kernel_rfl) (by kernel_rfl) (by kernel_rfl) (by kernel_rfl) (by kernel_rfl) (by kernel_rfl) trivial
def Vz : TI := ⟨1, 8, .other, [.bH], none⟩
theorem ajA : aX Tryz.prog 168 Vz := ag (by kernel_rfl) (by kernel_rfl) (by kernel_rfl) (by kernel_rfl) (by kernel_rfl) (by kernel_rfl) (by kernel_rfl) (by kernel_rfl) (by kernel_rfl) (by kernel_rfl) (by kernel_rfl) trivial
def Vy : TI := ⟨1, 8, .other, [.bH], none⟩
theorem ajz : aX Tryz.prog 170 Vy := ag (by kernel_rfl) (by kernel_rfl) (by kernel_rfl) (by kernel_rfl) (by kernel_rfl) (by kernel_rfl) (by kernel_rfl) (by kernel_rfl) (by kernel_rfl) (by kernel_rfl) (by kernel_rfl) trivial
def Vx : TI := ⟨1, 8, .other, [.bH], none⟩
theorem ajy : aX Tryz.prog 171 Vx := ag (by kernel_rfl) (by kernel_rfl) (by kernel_rfl) (by kernel_rfl) (by kernel_rfl) (by kernel_rfl) (by kernel_rfl) (by kernel_rfl) (by kernel_rfl) (by kernel_rfl) (by kernel_rfl) trivial
def Vw : TI := ⟨1, 8, .other, [.bH], none⟩
theorem ajx : aX Tryz.prog 172 Vw := ag (by kernel_rfl) (by kernel_rfl) (by kernel_rfl) (by kernel_rfl) (by kernel_rfl) (by kernel_rfl) (by kernel_rfl) (by kernel_rfl) (by kernel_rfl) (by kernel_rfl) (by kernel_rfl) trivial
def Vv : TI := ⟨16, 128, .array 16 39, List.replicate 16 (.u64 0), some (.arr 16 .u64)⟩
theorem ajw : aX Tryz.prog 173 Vv := ag (by kernel_rfl) (by kernel_rfl) (by kernel_rfl) (by kernel_rfl) (by kernel_rfl) (by kernel_rfl) (by kernel_rfl) (by kernel_rfl) (by kernel_rfl) (by kernel_rfl) (by kernel_rfl) ⟨by kernel_rfl, by kernel_rfl, by kernel_rfl⟩
def Vu : TI := ⟨16, 128, .array 16 3, List.replicate 16 (.int 0), some (.arr 16 .int)⟩
theorem ajv : aX Tryz.prog 174 Vu := ag (by kernel_rfl) (by kernel_rfl) (by kernel_rfl) (by kernel_rfl) (by kernel_rfl) (by kernel_rfl) (by kernel_rfl) (by kernel_rfl) (by kernel_rfl) (by kernel_rfl) (by kernel_rfl) ⟨by kernel_rfl, by kernel_rfl, by kernel_rfl⟩
def Vt : TI := ⟨160, 1280, .array 10 174, List.replicate 160 (.int 0), some (.arr 10 (.arr 16 .int))⟩
theorem aju : aX Tryz.prog 175 Vt := ag (by kernel_rfl) (by kernel_rfl) (by kernel_rfl) (by kernel_rfl) (by kernel_rfl) (by kernel_rfl) (by kernel_rfl) (by kernel_rfl) (by kernel_rfl) (by kernel_rfl) (by kernel_rfl) ⟨by kernel_rfl, by kernel_rfl, by kernel_rfl⟩
def Vs : TI := ⟨1, 8, .other, [.bH], none⟩
theorem ajt : aX Tryz.prog 176 Vs := ag (by kernel_rfl) (by kernel_rfl) (by kernel_rfl) (by kernel_rfl) (by kernel_rfl) (by kernel_rfl) (by kernel_rfl) (by kernel_rfl) (by kernel_rfl) (by kernel_rfl) (by kernel_rfl) trivial
def Vr : TI := ⟨1, 8, .other, [.bH], none⟩
theorem ajs : aX Tryz.prog 177 Vr := ag (by kernel_rfl) (by kernel_rfl) (by kernel_rfl) (by kernel_rfl) (by kernel_rfl) (by kernel_rfl) (by kernel_rfl) (by kernel_rfl) (by kernel_rfl) (by kernel_rfl) (by kernel_rfl) trivial
def Vq : TI := ⟨1, 24, .slice 3, [.emp], some (.list .int)⟩
theorem ajr : aX Tryz.prog 178 Vq := ag (by kernel_rfl) (by kernel_rfl) (by kernel_rfl) (by kernel_rfl) (by kernel_rfl) (by kernel_rfl) (by kernel_rfl) (by kernel_rfl) (by kernel_rfl) (by kernel_rfl) (by kernel_rfl) ⟨by kernel_rfl, by kernel_rfl, by kernel_rfl⟩
def Vp : TI := ⟨1, 8, .other, [.bH], none⟩
theorem ajq : aX Tryz.prog 179 Vp := ag (by kernel_rfl) (by kernel_rfl) (by kernel_rfl) (by kernel_rfl) (by kernel_rfl) (by kernel_rfl) (by kernel_rfl) (by kernel_rfl) (by kernel_rfl) (by kernel_rfl) (by kernel_rfl) trivial
def Vo : TI := ⟨1, 8, .other, [.bH], none⟩
theorem ajp : aX Tryz.prog 180 Vo := ag (by kernel_rfl) (by kernel_rfl) (by kernel_rfl) (by kernel_rfl) (by kernel_rfl) (by kernel_rfl) (by kernel_rfl) (by kernel_rfl) (by kernel_rfl) (by kernel_rfl) (by kernel_rfl) trivial
def Vn : TI := ⟨1, 8, .other, [.bH], none⟩
theorem ajo : aX Tryz.prog 181 Vn := ag (by kernel_rfl) (by kernel_rfl) (by kernel_rfl) (by kernel_rfl) (by kernel_rfl) (by kernel_rfl) (by kernel_rfl) (by kernel_rfl) (by kernel_rfl) (by kernel_rfl) (by kernel_rfl) trivial
def Vm : TI := ⟨128, 128, .array 128 5, List.replicate 128 (.u8 0), some (.arr 128 .u8)⟩
theorem ajn : aX Tryz.prog 182 Vm := ag (by kernel_rfl) (by kernel_rfl) (by kernel_rfl) (by kernel_rfl) (by kernel_rfl) (by kernel_rfl) (by kernel_rfl) (by kernel_rfl) (by kernel_rfl) (by kernel_rfl) (by kernel_rfl) ⟨by kernel_rfl, by kernel_rfl, by kernel_rfl⟩
def Vl : TI := ⟨8, 64, .array 2 41, [.u64 0, .u64 0, .u64 0, .u64 0, .u64 0, .u64 0, .u64 0, .u64 0], some (.arr 2 .elem)⟩
theorem ajm : aX Tryz.prog 183 Vl := ag (by kernel_rfl) (by kernel_rfl) (by kernel_rfl) (by kernel_rfl) (by kernel_rfl) (by kernel_rfl) (by kernel_rfl) (by kernel_rfl) (by kernel_rfl) (by kernel_rfl) (by kernel_rfl) ⟨by kernel_rfl, by kernel_rfl, by kernel_rfl⟩
def Vk : TI := ⟨1, 8, .other, [.bH], none⟩
theorem ajl : aX Tryz.prog 185 Vk := ag (by kernel_rfl) (by kernel_rfl) (by kernel_rfl) (by kernel_rfl) (by kernel_rfl) (by kernel_rfl) (by kernel_rfl) (by kernel_rfl) (by kernel_rfl) (by kernel_rfl) (by kernel_rfl) trivial
def Vj : TI := ⟨2, 32, .struct [(0, 3), (1, 113)], [.int 0, .emp], some (.prod .int (.list (.prod .elem (.prod .elem (.prod .elem .bool)))))⟩
theorem ajk : aX Tryz.prog 186 Vj := ag (by kernel_rfl) (by kernel_rfl) (by kernel_rfl) (by kernel_rfl) (by kernel_rfl) (by kernel_rfl) (by kernel_rfl) (by kernel_rfl) (by kernel_rfl) (by kernel_rfl) (by kernel_rfl) ⟨by kernel_rfl, by kernel_rfl, by kernel_rfl⟩
def Vi : TI := ⟨2, 32, .struct [(0, 3), (1, 113)], [.int 0, .emp], some (.prod .int (.list (.prod .elem (.prod .elem (.prod .elem .bool)))))⟩
theorem ajj : aX Tryz.prog 187 Vi := ag (by kernel_rfl) (by kernel_rfl) (by kernel_rfl) (by kernel_rfl) (by kernel_rfl) (by kernel_rfl) (by kernel_rfl) (by kernel_rfl) (by kernel_rfl) (by kernel_rfl) (by kernel_rfl) ⟨by kernel_rfl, by kernel_rfl, by kernel_rfl⟩
def Vh : TI := ⟨6, 48, .array 6 39, [.u64 0, .u64 0, .u64 0, .u64 0, .u64 0, .u64 0], some (.arr 6 .u64)⟩
theorem aji : aX Tryz.prog 188 Vh := ag (by kernel_rfl) (by kernel_rfl) (by kernel_rfl) (by kernel_rfl) (by kernel_rfl) (by kernel_rfl) (by kernel_rfl) (by kernel_rfl) (by kernel_rfl) (by kernel_rfl) (by kernel_rfl) ⟨by kernel_rfl, by kernel_rfl, by kernel_rfl⟩
def Vg : TI := ⟨1, 8, .other, [.bH], none⟩
theorem ajh : aX Tryz.prog 189 Vg := ag (by kernel_rfl) (by kernel_rfl) (by kernel_rfl) (by kernel_rfl) (by kernel_rfl) (by kernel_rfl) (by kernel_rfl) (by kernel_rfl) (by kernel_rfl) (by kernel_rfl) (by kernel_rfl) trivial
def Vf : TI := ⟨1, 24, .slice 39, [.emp], some (.list .u64)⟩
theorem ajg : aX Tryz.prog 190 Vf := ag (by kernel_rfl) (by kernel_rfl) (by kernel_rfl) (by kernel_rfl) (by kernel_rfl) (by kernel_rfl) (by kernel_rfl) (by kernel_rfl) (by kernel_rfl) (by kernel_rfl) (by kernel_rfl) ⟨by kernel_rfl, by kernel_rfl, by kernel_rfl⟩
def Ve : TI := ⟨1, 16, .iface, [.dF], none⟩
theorem ajf : aX Tryz.prog 191 Ve := ag (by kernel_rfl) (by kernel_rfl) (by kernel_rfl) (by kernel_rfl) (by kernel_rfl) (by kernel_rfl) (by kernel_rfl) (by kernel_rfl) (by kernel_rfl) (by kernel_rfl) (by kernel_rfl) trivial
def Vd : TI := ⟨1, 16, .iface, [.dF], none⟩
theorem aje : aX Tryz.prog 192 Vd := ag (by kernel_rfl) (by kernel_rfl) (by kernel_rfl) (by kernel_rfl) (by kernel_rfl) (by kernel_rfl) (by kernel_rfl) (by kernel_rfl) (by kernel_rfl) (by kernel_rfl) (by kernel_rfl) trivial
def Vc : TI := ⟨1, 8, .other, [.bH], none⟩
theorem ajd : aX Tryz.prog 193 Vc := ag (by kernel_rfl) (by kernel_rfl) (by kernel_rfl) (by kernel_rfl) (by kernel_rfl) (by kernel_rfl) (by kernel_rfl) (by kernel_rfl) (by kernel_rfl) (by kernel_rfl) (by kernel_rfl) trivial
def Vb : TI := ⟨4, 32, .array 4 3, [.int 0, .int 0, .int 0, .int 0], some (.arr 4 .int)⟩
theorem ajc : aX Tryz.prog 194 Vb := ag (by kernel_rfl) (by kernel_rfl) (by kernel_rfl) (by kernel_rfl) (by kernel_rfl) (by kernel_rfl) (by kernel_rfl) (by kernel_rfl) (by kernel_rfl) (by kernel_rfl) (by kernel_rfl) ⟨by kernel_rfl, by kernel_rfl, by kernel_rfl⟩
def Va : TI := ⟨1, 8, .other, [.bH], none⟩
theorem ajb : aX Tryz.prog 195 Va := ag (by kernel_rfl) (by kernel_rfl) (by kernel_rfl) (by kernel_rfl) (by kernel_rfl) (by kernel_rfl) (by kernel_rfl) (by kernel_rfl) (by kernel_rfl) (by kernel_rfl) (by kernel_rfl) trivial
def U9 : TI := ⟨16, 128, .array 16 39, List.replicate 16 (.u64 0), some (.arr 16 .u64)⟩
theorem aja : aX Tryz.prog 196 U9 := ag (by kernel_rfl) (by kernel_rfl) (by kernel_rfl) (by kernel_rfl) (by kernel_rfl) (by kernel_rfl) (by kernel_rfl) (by kernel_rfl) (by kernel_rfl) (by kernel_rfl) (by kernel_rfl) ⟨by kernel_rfl, by kernel_rfl, by kernel_rfl⟩
def U8 : TI := ⟨10, 160, .array 10 9, List.replicate 10 (.str []), some (.arr 10 .str)⟩
theorem ai9 : aX Tryz.prog 197 U8 := ag (by kernel_rfl) (by kernel_rfl) (by kernel_rfl) (by kernel_rfl) (by kernel_rfl) (by kernel_rfl) (by kernel_rfl) (by kernel_rfl) (by kernel_rfl) (by kernel_rfl) (by kernel_rfl) ⟨by kernel_rfl, by kernel_rfl, by kernel_rfl⟩
def U7 : TI := ⟨1, 8, .other, [.bH], none⟩
theorem ai8 : aX Tryz.prog 198 U7 := ag (by kernel_rfl) (by kernel_rfl) (by kernel_rfl) (by kernel_rfl) (by kernel_rfl) (by kernel_rfl) (by kernel_rfl) (by kernel_rfl) (by kernel_rfl) (by kernel_rfl) (by kernel_rfl) trivial
def U6 : TI := ⟨1, 8, .other, [.bH], none⟩
theorem ai7 : aX Tryz.prog 199 U6 := ag (by kernel_rfl) (by kernel_rfl) (by kernel_rfl) (by kernel_rfl) (by kernel_rfl) (by kernel_rfl) (by kernel_rfl) (by kernel_rfl) (by kernel_rfl) (by kernel_rfl) (by kernel_rfl) trivial
def U5 : TI := ⟨1, 8, .other, [.bH], none⟩
theorem ai6 : aX Tryz.prog 200 U5 := ag (by kernel_rfl) (by kernel_rfl) (by kernel_rfl) (by kernel_rfl) (by kernel_rfl) (by kernel_rfl) (by kernel_rfl) (by kernel_rfl) (by kernel_rfl) (by kernel_rfl) (by kernel_rfl) trivial
def U4 : TI := ⟨1, 8, .other, [.bH], none⟩
theorem ai5 : aX Tryz.prog 201 U4 := ag (by kernel_rfl) (by kernel_rfl) (by kernel_rfl) (by kernel_rfl) (by kernel_rfl) (by kernel_rfl) (by kernel_rfl) (by kernel_rfl) (by kernel_rfl) (by kernel_rfl) (by kernel_rfl) trivial
def U3 : TI := ⟨1, 8, .other, [.bH], none⟩
theorem ai4 : aX Tryz.prog 202 U3 := ag (by kernel_rfl) (by kernel_rfl) (by kernel_rfl) (by kernel_rfl) (by kernel_rfl) (by kernel_rfl) (by kernel_rfl) (by kernel_rfl) (by kernel_rfl) (by kernel_rfl) (by kernel_rfl) trivial
def U2 : TI := ⟨1, 8, .other, [.bH], none⟩
theorem ai3 : aX Tryz.prog 203 U2 := ag (by kernel_rfl) (by kernel_rfl) (by kernel_rfl) (by kernel_rfl) (by kernel_rfl) (by kernel_rfl) (by kernel_rfl) (by kernel_rfl) (by kernel_rfl) (by kernel_rfl) (by kernel_rfl) trivial
def U1 : TI := ⟨1, 8, .ptr [("sigil/blake.mix", 159)], [.nQ], none⟩
theorem ai2 : aX Tryz.prog 204 U1 := ag (by kernel_rfl) (by kernel_rfl) (by kernel_rfl) (by kernel_rfl) (by kernel_rfl) (by kernel_rfl) (by kernel_rfl) (by kernel_rfl) (by kernel_rfl) (by kernel_rfl) (by kernel_rfl) trivial
def U0 : TI := ⟨1, 8, .other, [.bH], none⟩
theorem ai1 : aX Tryz.prog 205 U0 := ag (by kernel_rfl) (by kernel_rfl) (by kernel_rfl) (by kernel_rfl) (by kernel_rfl) (by kernel_rfl) (by kernel_rfl) (by kernel_rfl) (by kernel_rfl) (by kernel_rfl) (by kernel_rfl) trivial
def UZ : TI := ⟨1, 8, .other, [.bH], none⟩
theorem ai0 : aX Tryz.prog 206 UZ := ag (by kernel_rfl) (by kernel_rfl) (by kernel_rfl) (by kernel_rfl) (by kernel_rfl) (by kernel_rfl) (by kernel_rfl) (by kernel_rfl) (by kernel_rfl) (by kernel_rfl) (by kernel_rfl) trivial
def UY : TI := ⟨1, 8, .other, [.bH], none⟩
theorem aiZ : aX Tryz.prog 207 UY := ag (by kernel_rfl) (by kernel_rfl) (by kernel_rfl) (by kernel_rfl) (by kernel_rfl) (by kernel_rfl) (by kernel_rfl) (by kernel_rfl) (by kernel_rfl) (by kernel_rfl) (by kernel_rfl) trivial
def UX : TI := ⟨135, 1080, .array 15 43, (([.u64 0, .u64 0, .u64 0, .u64 0, .u64 0, .u64 0, .u64 0, .u64 0, .bool false, .u64 0, .u64 0, .u64 0, .u64 0, .u64 0, .u64 0, .u64 0, .u64 0, .bool false, .u64 0, .u64 0, .u64 0, .u64 0, .u64 0, .u64 0, .u64 0, .u64 0, .bool false, .u64 0, .u64 0, .u64 0, .u64 0, .u64 0, .u64 0, .u64 0, .u64 0, .bool false, .u64 0, .u64 0, .u64 0, .u64 0, .u64 0, .u64 0, .u64 0, .u64 0, .bool false, .u64 0, .u64 0, .u64 0, .u64 0, .u64 0] : List SV) ++ ([.u64 0, .u64 0, .u64 0, .bool false, .u64 0, .u64 0, .u64 0, .u64 0, .u64 0, .u64 0, .u64 0, .u64 0, .bool false, .u64 0, .u64 0, .u64 0, .u64 0, .u64 0, .u64 0, .u64 0, .u64 0, .bool false, .u64 0, .u64 0, .u64 0, .u64 0, .u64 0, .u64 0, .u64 0, .u64 0, .bool false, .u64 0, .u64 0, .u64 0, .u64 0, .u64 0, .u64 0, .u64 0, .u64 0, .bool false, .u64 0, .u64 0, .u64 0, .u64 0, .u64 0, .u64 0, .u64 0, .u64 0, .bool false, .u64 0] : List SV) ++ ([.u64 0, .u64 0, .u64 0, .u64 0, .u64 0, .u64 0, .u64 0, .bool false, .u64 0, .u64 0, .u64 0, .u64 0, .u64 0, .u64 0, .u64 0, .u64 0, .bool false, .u64 0, .u64 0, .u64 0, .u64 0, .u64 0, .u64 0, .u64 0, .u64 0, .bool false, .u64 0, .u64 0, .u64 0, .u64 0, .u64 0, .u64 0, .u64 0, .u64 0, .bool false] : List SV)), some (.arr 15 (.prod .elem (.prod .elem .bool)))⟩
theorem aiY : aX Tryz.prog 208 UX := ag (by kernel_rfl) (by kernel_rfl) (by kernel_rfl) (by kernel_rfl) (by kernel_rfl) (by kernel_rfl) (by kernel_rfl) (by kernel_rfl) (by kernel_rfl) (by kernel_rfl) (by kernel_rfl) ⟨by kernel_rfl, by kernel_rfl, by kernel_rfl⟩
def UW : TI := ⟨1, 8, .other, [.bH], none⟩
theorem aiX : aX Tryz.prog 209 UW := ag (by kernel_rfl) (by kernel_rfl) (by kernel_rfl) (by kernel_rfl) (by kernel_rfl) (by kernel_rfl) (by kernel_rfl) (by kernel_rfl) (by kernel_rfl) (by kernel_rfl) (by kernel_rfl) trivial
def UU : TI := ⟨1, 8, .ptr [("Error", 197)], [.nQ], none⟩
theorem aiW : aX Tryz.prog 210 UU := ag (by kernel_rfl) (by kernel_rfl) (by kernel_rfl) (by kernel_rfl) (by kernel_rfl) (by kernel_rfl) (by kernel_rfl) (by kernel_rfl) (by kernel_rfl) (by kernel_rfl) (by kernel_rfl) trivial
def UT : TI := ⟨1, 8, .other, [.bH], none⟩
theorem aiV : aX Tryz.prog 211 UT := ag (by kernel_rfl) (by kernel_rfl) (by kernel_rfl) (by kernel_rfl) (by kernel_rfl) (by kernel_rfl) (by kernel_rfl) (by kernel_rfl) (by kernel_rfl) (by kernel_rfl) (by kernel_rfl) trivial
def US : TI := ⟨0, 0, .array 0 16, [], none⟩
theorem aiU : aX Tryz.prog 214 US := ag (by kernel_rfl) (by kernel_rfl) (by kernel_rfl) (by kernel_rfl) (by kernel_rfl) (by kernel_rfl) (by kernel_rfl) (by kernel_rfl) (by kernel_rfl) (by kernel_rfl) (by kernel_rfl) trivial
def UR : TI := ⟨1, 4, .int .u32, [.bH], none⟩
theorem aiT : aX Tryz.prog 217 UR := ag (by kernel_rfl) (by kernel_rfl) (by kernel_rfl) (by kernel_rfl) (by kernel_rfl) (by kernel_rfl) (by kernel_rfl) (by kernel_rfl) (by kernel_rfl) (by kernel_rfl) (by kernel_rfl) trivial
def UQ : TI := ⟨1, 1, .int .u8, [.u8 0], some .u8⟩
theorem aiS : aX Tryz.prog 218 UQ := ag (by kernel_rfl) (by kernel_rfl) (by kernel_rfl) (by kernel_rfl) (by kernel_rfl) (by kernel_rfl) (by kernel_rfl) (by kernel_rfl) (by kernel_rfl) (by kernel_rfl) (by kernel_rfl) ⟨by kernel_rfl, by kernel_rfl, by kernel_rfl⟩
def UP : TI := ⟨1, 1, .int .u8, [.u8 0], some .u8⟩
theorem aiR : aX Tryz.prog 219 UP := ag (by kernel_rfl) (by kernel_rfl) (by kernel_rfl) (by kernel_rfl) (by kernel_rfl) (by kernel_rfl) (by kernel_rfl) (by kernel_rfl) (by kernel_rfl) (by kernel_rfl) (by kernel_rfl) ⟨by kernel_rfl, by kernel_rfl, by kernel_rfl⟩
def UO : TI := ⟨1, 8, .other, [.bH], none⟩
theorem aiQ : aX Tryz.prog 220 UO := ag (by kernel_rfl) (by kernel_rfl) (by kernel_rfl) (by kernel_rfl) (by kernel_rfl) (by kernel_rfl) (by kernel_rfl) (by kernel_rfl) (by kernel_rfl) (by kernel_rfl) (by kernel_rfl) trivial
def UN : TI := ⟨1, 8, .ptr [], [.nQ], none⟩
theorem aiP : aX Tryz.prog 221 UN := ag (by kernel_rfl) (by kernel_rfl) (by kernel_rfl) (by kernel_rfl) (by kernel_rfl) (by kernel_rfl) (by kernel_rfl) (by kernel_rfl) (by kernel_rfl) (by kernel_rfl) (by kernel_rfl) trivial
def UM : TI := ⟨1, 4, .int .i32, [.bH], none⟩
theorem aiO : aX Tryz.prog 222 UM := ag (by kernel_rfl) (by kernel_rfl) (by kernel_rfl) (by kernel_rfl) (by kernel_rfl) (by kernel_rfl) (by kernel_rfl) (by kernel_rfl) (by kernel_rfl) (by kernel_rfl) (by kernel_rfl) trivial
def UL : TI := ⟨1, 4, .int .i32, [.bH], none⟩
theorem aiN : aX Tryz.prog 223 UL := ag (by kernel_rfl) (by kernel_rfl) (by kernel_rfl) (by kernel_rfl) (by kernel_rfl) (by kernel_rfl) (by kernel_rfl) (by kernel_rfl) (by kernel_rfl) (by kernel_rfl) (by kernel_rfl) trivial
def UK : TI := ⟨1, 8, .ptr [("Next", 193)], [.nQ], none⟩
theorem aiM : aX Tryz.prog 226 UK := ag (by kernel_rfl) (by kernel_rfl) (by kernel_rfl) (by kernel_rfl) (by kernel_rfl) (by kernel_rfl) (by kernel_rfl) (by kernel_rfl) (by kernel_rfl) (by kernel_rfl) (by kernel_rfl) trivial
def UJ : TI := ⟨1, 16, .struct [(0, 9)], [.str []], some .str⟩
theorem aiL : aX Tryz.prog 227 UJ := ag (by kernel_rfl) (by kernel_rfl) (by kernel_rfl) (by kernel_rfl) (by kernel_rfl) (by kernel_rfl) (by kernel_rfl) (by kernel_rfl) (by kernel_rfl) (by kernel_rfl) (by kernel_rfl) ⟨by kernel_rfl, by kernel_rfl, by kernel_rfl⟩
def UI : TI := ⟨1, 16, .struct [(0, 9)], [.str []], some .str⟩
theorem aiK : aX Tryz.prog 228 UI := ag (by kernel_rfl) (by kernel_rfl) (by kernel_rfl) (by kernel_rfl) (by kernel_rfl) (by kernel_rfl) (by kernel_rfl) (by kernel_rfl) (by kernel_rfl) (by kernel_rfl) (by kernel_rfl) ⟨by kernel_rfl, by kernel_rfl, by kernel_rfl⟩
def UH : TI := ⟨1, 8, .other, [.nQ], none⟩
theorem aiJ : aX Tryz.prog 229 UH := ag (by kernel_rfl) (by kernel_rfl) (by kernel_rfl) (by kernel_rfl) (by kernel_rfl) (by kernel_rfl) (by kernel_rfl) (by kernel_rfl) (by kernel_rfl) (by kernel_rfl) (by kernel_rfl) trivial
def te : TE := (aj 1 am7 (aj 2 am6 (aj 3 am5 (aj 4 am4 (aj 5 am3 (aj 6 am2 (aj 7 am1 (aj 8 am0 (aj 9 amZ (aj 10 ad4 (aj 11 ad3 (aj 12 ad2 (aj 15 ad1 (aj 16 ad0 (aj 17 adZ (aj 20 adY (aj 21 adX (aj 22 adW (aj 23 adV (aj 24 adU (aj 25 adT (aj 26 adS (aj 27 adR (aj 28 adQ (aj 29 adP (aj 30 adO (aj 32 adN (aj 33 adM (aj 34 adL (aj 35 adK (aj 37 adJ (aj 38 adI (aj 39 adH (aj 40 adG (aj 41 adF (aj 42 adE (aj 43 adD (aj 44 adC (aj 45 adB (aj 46 adA (aj 47 adz (aj 48 ady (aj 49 adx (aj 50 adw (aj 51 adv (aj 52 adu (aj 53 adt (aj 55 ads (aj 57 adr (aj 59 adq (aj 61 adp (aj 62 ado (aj 63 adn (aj 64 adm (aj 65 adl (aj 66 adk (aj 67 adj (aj 68 adi (aj 69 adh (aj 71 adg (aj 72 adf (aj 73 ade (aj 74 adb (aj 75 ada (aj 76 ac9 (aj 77 ac8 (aj 78 ac7 (aj 79 ac6 (aj 80 ac5 (aj 81 ac4 (aj 82 ac3 (aj 83 ac2 (aj 84 ac1 (aj 85 ac0 (aj 86 acZ (aj 87 acY (aj 89 acX (aj 90 acW (aj 91 acV (aj 92 acU (aj 94 acT (aj 95 acS (aj 96 acR (aj 97 acQ (aj 98 acP (aj 99 acO (aj 100 Wz (aj 101 Wy (aj 102 Wx (aj 103 Ww (aj 105 Wv (aj 106 Wu (aj 107 Wt (aj 108 Ws (aj 109 Wr (aj 110 Wq (aj 111 Wp (aj 112 Wo (aj 113 Wn (aj 114 Wm (aj 115 Wl (aj 116 Wk (aj 117 Wj (aj 119 Wi (aj 120 Wh (aj 121 Wg (aj 122 Wf (aj 123 We (aj 124 Wd (aj 125 Wc (aj 126 Wb (aj 127 Wa (aj 128 V9 (aj 129 V8 (aj 131 V7 (aj 132 V6 (aj 133 V5 (aj 134 V4 (aj 135 V3 (aj 136 V2 (aj 137 V1 (aj 138 V0 (aj 140 VZ (aj 141 VY (aj 142 VX (aj 143 VW (aj 144 VV (aj 145 VU (aj 146 VT (aj 147 VS (aj 148 VR (aj 149 VQ (aj 150 VP (aj 151 VO (aj 152 VN (aj 153 VM (aj 154 VL (aj 155 VK (aj 156 VJ (aj 158 VI (aj 159 VH (aj 160 VG (aj 161 VF (aj 162 VE (aj 163 VD (aj 164 VC (aj 165 VB (aj 166 VA (aj 168 Vz (aj 170 Vy (aj 171 Vx (aj 172 Vw (aj 173 Vv (aj 174 Vu (aj 175 Vt (aj 176 Vs (aj 177 Vr (aj 178 Vq (aj 179 Vp (aj 180 Vo (aj 181 Vn (aj 182 Vm (aj 183 Vl (aj 185 Vk (aj 186 Vj (aj 187 Vi (aj 188 Vh (aj 189 Vg (aj 190 Vf (aj 191 Ve (aj 192 Vd (aj 193 Vc (aj 194 Vb (aj 195 Va (aj 196 U9 (aj 197 U8 (aj 198 U7 (aj 199 U6 (aj 200 U5 (aj 201 U4 (aj 202 U3 (aj 203 U2 (aj 204 U1 (aj 205 U0 (aj 206 UZ (aj 207 UY (aj 208 UX (aj 209 UW (aj 210 UU (aj 211 UT (aj 214 US (aj 217 UR (aj 218 UQ (aj 219 UP (aj 220 UO (aj 221 UN (aj 222 UM (aj 223 UL (aj 226 UK (aj 227 UJ (aj 228 UI (aj 229 UH ar5))))))))))))))))))))))))))))))))))))))))))))))))))))))))))))))))))))))))))))))))))))))))))))))))))))))))))))))))))))))))))))))))))))))))))))))))))))))))))))))))))))))))))))))))))))))))))))))))))))))))))
theorem au : lv Tryz.prog te := (ab ar4 (ab ar3 (ab ar2 (ab ar1 (ab ar0 (ab arZ (ab arY (ab arX (ab arW (ab apl (ab apk (ab apj (ab api (ab aph (ab apg (ab apf (ab ape (ab apd (ab apc (ab apb (ab apa (ab ao9 (ab ao8 (ab ao7 (ab ao6 (ab ao5 (ab ao4 (ab ao3 (ab ao2 (ab ao1 (ab ao0 (ab aoZ (ab aoY (ab aoX (ab aoW (ab aoV (ab aoU (ab aoT (ab aoS (ab aoR (ab aoQ (ab aoP (ab aoO (ab aoN (ab aoM (ab aoL (ab aoK (ab aoJ (ab aoI (ab aoH (ab aoG (ab aoF (ab aoE (ab aoD (ab aoC (ab aoB (ab aoA (ab aoz (ab aoy (ab aox (ab aow (ab aov (ab aou (ab aot (ab aos (ab aor (ab aoq (ab aop (ab aoo (ab aon (ab aom (ab aol (ab aok (ab aoj (ab aoi (ab aoh (ab aog (ab aof (ab aoe (ab aod (ab aoc (ab aob (ab aoa (ab an9 (ab an8 (ab an7 (ab akA (ab akz (ab aky (ab akx (ab akw (ab akv (ab aku (ab akt (ab aks (ab akr (ab akq (ab akp (ab ako (ab akn (ab akm (ab akl (ab akk (ab akj (ab aki (ab akh (ab akg (ab akf (ab ake (ab akd (ab akc (ab akb (ab aka (ab aj9 (ab aj8 (ab aj7 (ab aj6 (ab aj5 (ab aj4 (ab aj3 (ab aj2 (ab aj1 (ab aj0 (ab ajZ (ab ajY (ab ajX (ab ajW (ab ajV (ab ajU (ab ajT (ab ajS (ab ajR (ab ajQ (ab ajP (ab ajO (ab ajN (ab ajM (ab ajL (ab ajK (ab ajJ (ab ajI (ab ajH (ab ajG (ab ajF (ab ajE (ab ajD (ab ajC (ab ajB (ab ajA (ab ajz (ab ajy (ab ajx (ab ajw (ab ajv (ab aju (ab ajt (ab ajs (ab ajr (ab ajq (ab ajp (ab ajo (ab ajn (ab ajm (ab ajl (ab ajk (ab ajj (ab aji (ab ajh (ab ajg (ab ajf (ab aje (ab ajd (ab ajc (ab ajb (ab aja (ab ai9 (ab ai8 (ab ai7 (ab ai6 (ab ai5 (ab ai4 (ab ai3 (ab ai2 (ab ai1 (ab ai0 (ab aiZ (ab aiY (ab aiX (ab aiW (ab aiV (ab aiU (ab aiT (ab aiS (ab aiR (ab aiQ (ab aiP (ab aiO (ab aiN (ab aiM (ab aiL (ab aiK (ab aiJ akB))))))))))))))))))))))))))))))))))))))))))))))))))))))))))))))))))))))))))))))))))))))))))))))))))))))))))))))))))))))))))))))))))))))))))))))))))))))))))))))))))))))))))))))))))))))))))))))))))))))))))
theorem follows : Tryz.prog.follows .mixedOrders = true := by kernel_rfl
def E0 : Env := ahk
theorem aui : aV Tryz.prog E0 := ahj
theorem arq : ax E0 := Ti
end Go.Proofs.YtohjofabochgfaaGreat

namespace Go.Proofs.YtohjofabochgfaaGreat
open Sx Go
def Sx.aa.nat (e : aa) : Nat := e.w0.toNat + 18446744073709551616 * (e.w1.toNat + 18446744073709551616 * (e.w2.toNat + 18446744073709551616 * e.w3.toNat))
def ofN (n : Nat) : aa := ⟨UInt64.ofNat n, UInt64.ofNat (n / 18446744073709551616), UInt64.ofNat (n / 18446744073709551616 / 18446744073709551616), UInt64.ofNat (n / 18446744073709551616 / 18446744073709551616 / 18446744073709551616)⟩
def rX (x y c : UInt64) : UInt64 := UInt64.ofNat ((x.toNat + y.toNat + c.toNat) % 18446744073709551616)
def uh (x y c : UInt64) : UInt64 := UInt64.ofNat ((x.toNat + y.toNat + c.toNat) / 18446744073709551616)
def mN (x y c : UInt64) : UInt64 := UInt64.ofNat ((x.toNat + 18446744073709551616 - y.toNat - c.toNat) % 18446744073709551616)
def LW (x y c : UInt64) : UInt64 := UInt64.ofNat (if x.toNat < y.toNat + c.toNat then 1 else 0)
def aix (x y : UInt64) : UInt64 := UInt64.ofNat (x.toNat * y.toNat / 18446744073709551616)
theorem gg (x : UInt64) (k : Nat) (hk : k < 64) : (bA x (k : Int)).toNat = x.toNat / 2 ^ k := by
  unfold bA
  rw [if_pos (by omega), UInt64.toNat_shiftRight, UInt64.toNat_ofNat', Int.toNat_natCast, Nat.shiftRight_eq_div_pow]
  congr 2
  omega
theorem lC (x : UInt64) (k : Nat) (hk : k < 64) : (cA x (k : Int)).toNat = x.toNat * 2 ^ k % 2 ^ 64 := by
  unfold cA
  rw [if_pos (by omega), UInt64.toNat_shiftLeft, UInt64.toNat_ofNat', Int.toNat_natCast, Nat.shiftLeft_eq]
  congr 3
  omega
theorem iq (x : UInt64) : (x &&& 4294967295).toNat = x.toNat % 4294967296 := by
  rw [UInt64.toNat_and]
  exact Nat.and_two_pow_sub_one_eq_mod x.toNat 32
theorem asw (a b : UInt64) : bA a 32 * bA b 32 + bA (bA a 32 * (b &&& 4294967295) + bA ((a &&& 4294967295) * (b &&& 4294967295)) 32) 32 +
    bA (((bA a 32 * (b &&& 4294967295) + bA ((a &&& 4294967295) * (b &&& 4294967295)) 32) &&& 4294967295) + (a &&& 4294967295) * bA b 32) 32 = aix a b := by
  have ha := a.toNat_lt
  have hb := b.toNat_lt
  obtain ⟨h1, h2, h3, h4⟩ := Lib.mul64_hi a.toNat b.toNat ha hb
  have s32 : ∀ x : UInt64, (bA x 32).toNat = x.toNat / 4294967296 := fun x => gg x 32 (by omega)
  have hx := Lib.half_mul_le (a := a.toNat / 4294967296) (b := b.toNat / 4294967296) (by omega) (by omega)
  have hy := Lib.half_mul_le (a := a.toNat / 4294967296) (b := b.toNat % 4294967296) (by omega) (by omega)
  have hz := Lib.half_mul_le (a := a.toNat % 4294967296) (b := b.toNat / 4294967296) (by omega) (by omega)
  have e0 : ((a &&& 4294967295) * (b &&& 4294967295)).toNat = a.toNat % 4294967296 * (b.toNat % 4294967296) := by
    rw [UInt64.toNat_mul, iq, iq, Nat.mod_eq_of_lt h1]
  have e1 : (bA a 32 * (b &&& 4294967295) + bA ((a &&& 4294967295) * (b &&& 4294967295)) 32).toNat = a.toNat / 4294967296 * (b.toNat % 4294967296) + a.toNat % 4294967296 * (b.toNat % 4294967296) / 4294967296 := by
    rw [UInt64.toNat_add, UInt64.toNat_mul, s32, s32, iq, e0, Nat.mod_eq_of_lt (a := a.toNat / 4294967296 * (b.toNat % 4294967296)) (by omega), Nat.mod_eq_of_lt h2]
  have e2 : (((bA a 32 * (b &&& 4294967295) + bA ((a &&& 4294967295) * (b &&& 4294967295)) 32) &&& 4294967295) + (a &&& 4294967295) * bA b 32).toNat =
      (a.toNat / 4294967296 * (b.toNat % 4294967296) + a.toNat % 4294967296 * (b.toNat % 4294967296) / 4294967296) % 4294967296 + a.toNat % 4294967296 * (b.toNat / 4294967296) := by
    rw [UInt64.toNat_add, UInt64.toNat_mul, iq, iq, s32, e1, Nat.mod_eq_of_lt (a := a.toNat % 4294967296 * (b.toNat / 4294967296)) (by omega), Nat.mod_eq_of_lt h3]
  have hq : a.toNat * b.toNat / 18446744073709551616 < 18446744073709551616 := by
    rw [Nat.div_lt_iff_lt_mul (by omega)]
    exact Nat.mul_lt_mul'' ha hb
  rw [← UInt64.toNat_inj, UInt64.toNat_add, UInt64.toNat_add, UInt64.toNat_mul, s32, s32, s32, s32, e1, e2]
  have e3 : (aix a b).toNat = a.toNat * b.toNat / 18446744073709551616 := by
    unfold aix
    rw [UInt64.toNat_ofNat', Nat.mod_eq_of_lt hq]
  rw [e3, ← h4]
  rw [← h4] at hq
  omega
def arF (h l y : UInt64) : UInt64 := UInt64.ofNat ((h.toNat * 18446744073709551616 + l.toNat) / y.toNat)
def Pb (h l y : UInt64) : UInt64 := UInt64.ofNat ((h.toNat * 18446744073709551616 + l.toNat) % y.toNat)
theorem amt {m A B N : Nat} (hm : 0 < m) (e : N = A + m * B) : N / m = B + A / m ∧ N % m = A % m := by
  subst e
  exact ⟨by rw [Nat.add_mul_div_left _ _ hm, Nat.add_comm], Nat.add_mul_mod_self_left ..⟩
theorem KZ {m N u t q r K L : Nat} (hm : 0 < m) (hL : 0 < L) (hu : N = u * K + t) (hq : u = q * (m * L) + r) :
    N / m = q * (L * K) + ((r * K + t) * L) / (m * L) ∧ N % m = ((r * K + t) * L) % (m * L) / L := by
  have e : N = (r * K + t) + m * (q * (L * K)) := by
    have h1 : q * (m * L) * K = m * (q * (L * K)) := by
      rw [Nat.mul_assoc q, Nat.mul_assoc m, Nat.mul_left_comm m q]
    rw [hu, hq, Nat.add_mul, h1]
    omega
  obtain ⟨h1, h2⟩ := amt hm e
  rw [h1, h2, Nat.mul_div_mul_right _ _ hL, Nat.mul_mod_mul_right, Nat.mul_div_cancel _ hL]
  exact ⟨rfl, rfl⟩
theorem kC (x y c : UInt64) : x.toNat + y.toNat + c.toNat = (rX x y c).toNat + 18446744073709551616 * (uh x y c).toNat := by
  have hx := x.toNat_lt
  have hy := y.toNat_lt
  have hc := c.toNat_lt
  unfold rX uh
  rw [UInt64.toNat_ofNat', UInt64.toNat_ofNat', Nat.mod_eq_of_lt (b := 2 ^ 64) (by omega), Nat.mod_eq_of_lt (b := 2 ^ 64) (by omega)]
  omega
theorem zk {x y c : UInt64} (hc : c.toNat ≤ 1) : (uh x y c).toNat ≤ 1 := by
  have hx := x.toNat_lt
  have hy := y.toNat_lt
  unfold uh
  rw [UInt64.toNat_ofNat', Nat.mod_eq_of_lt (by omega)]
  omega
theorem uw (x y c : UInt64) : (LW x y c).toNat = if x.toNat < y.toNat + c.toNat then 1 else 0 := by
  unfold LW
  rw [UInt64.toNat_ofNat']
  split <;> rfl
theorem xk {x y c : UInt64} : (LW x y c).toNat ≤ 1 := by
  rw [uw]
  split <;> omega
theorem ux {x y c : UInt64} (hc : c.toNat ≤ 1) : x.toNat + 18446744073709551616 * (LW x y c).toNat = (mN x y c).toNat + y.toNat + c.toNat := by
  have hx := x.toNat_lt
  have hy := y.toNat_lt
  rw [uw]
  unfold mN
  rw [UInt64.toNat_ofNat', Nat.mod_eq_of_lt (b := 2 ^ 64) (by omega)]
  split <;> omega
theorem gD (e : aa) : e.nat < 115792089237316195423570985008687907853269984665640564039457584007913129639936 := by
  have h0 := e.w0.toNat_lt
  have h1 := e.w1.toNat_lt
  have h2 := e.w2.toNat_lt
  have h3 := e.w3.toNat_lt
  unfold Sx.aa.nat
  omega
theorem xd {a b X Y : Nat} (ha : a < 18446744073709551616) (hb : b < 18446744073709551616) (h : a + 18446744073709551616 * X = b + 18446744073709551616 * Y) : a = b ∧ X = Y := by
  omega
theorem j7 {e f : aa} (h : e.nat = f.nat) : e = f := by
  unfold Sx.aa.nat at h
  obtain ⟨h0, h⟩ := xd e.w0.toNat_lt f.w0.toNat_lt h
  obtain ⟨h1, h⟩ := xd e.w1.toNat_lt f.w1.toNat_lt h
  obtain ⟨h2, h3⟩ := xd e.w2.toNat_lt f.w2.toNat_lt h
  obtain ⟨a, b, c, d⟩ := e
  obtain ⟨a', b', c', d'⟩ := f
  simp only at h0 h1 h2 h3
  rw [UInt64.toNat_inj.1 h0, UInt64.toNat_inj.1 h1, UInt64.toNat_inj.1 h2, UInt64.toNat_inj.1 h3]
theorem div_eq {n a b : Nat} (ha : a < 18446744073709551616) (h : n = a + 18446744073709551616 * b) : n / 18446744073709551616 = b ∧ n % 18446744073709551616 = a := by
  omega
theorem afQ {n : Nat} {a b c d : UInt64} {k : Nat} (h : n = a.toNat + 18446744073709551616 * (b.toNat + 18446744073709551616 * (c.toNat + 18446744073709551616 * (d.toNat + 18446744073709551616 * k)))) : ofN n = ⟨a, b, c, d⟩ := by
  obtain ⟨h1, h0⟩ := div_eq a.toNat_lt h
  obtain ⟨h2, h3⟩ := div_eq b.toNat_lt h1
  obtain ⟨h4, h5⟩ := div_eq c.toNat_lt h2
  have h6 : n / 18446744073709551616 / 18446744073709551616 / 18446744073709551616 % 18446744073709551616 = d.toNat := by
    rw [h4]
    have := d.toNat_lt
    omega
  unfold ofN
  have e : ∀ (m : Nat) (x : UInt64), m % 18446744073709551616 = x.toNat → UInt64.ofNat m = x := fun m x hm => by
    rw [← UInt64.toNat_inj, UInt64.toNat_ofNat']
    exact hm
  rw [e _ a h0, e _ b h3, e _ c h5, e _ d h6]
theorem Sb (n : Nat) : (ofN n).nat = n % 115792089237316195423570985008687907853269984665640564039457584007913129639936 := by
  unfold ofN aa.nat
  simp only [UInt64.toNat_ofNat']
  rw [show (2 : Nat) ^ 64 = 18446744073709551616 from rfl]
  omega
theorem ia {n : Nat} (h : n < 115792089237316195423570985008687907853269984665640564039457584007913129639936) : (ofN n).nat = n := by
  rw [Sb]
  exact Nat.mod_eq_of_lt h
theorem qW (e : aa) : ofN e.nat = e := j7 (ia (gD e))
def ui (a b : aa) : aa × Bool := (ofN (a.nat + b.nat), Nat.ble 115792089237316195423570985008687907853269984665640564039457584007913129639936 (a.nat + b.nat))
def lk (a b : aa) : aa × Bool := (ofN (a.nat + 115792089237316195423570985008687907853269984665640564039457584007913129639936 - b.nat), Nat.blt a.nat b.nat)
theorem Lt {x y c s k X Y R : Nat} (h1 : x + y + c = s + 18446744073709551616 * k) (h2 : X + Y + k = R) : (x + 18446744073709551616 * X) + (y + 18446744073709551616 * Y) + c = s + 18446744073709551616 * R := by
  omega
theorem Ja {x y c s k X Y R Q : Nat} (h1 : x + 18446744073709551616 * k = s + y + c) (h2 : X + 18446744073709551616 * Q = R + Y + k) : (x + 18446744073709551616 * X) + 18446744073709551616 * (18446744073709551616 * Q) = s + 18446744073709551616 * R + (y + 18446744073709551616 * Y) + c := by
  omega
theorem GD (a b : aa) : let k0 := uh a.w0 b.w0 0; let k1 := uh a.w1 b.w1 k0; let k2 := uh a.w2 b.w2 k1; let k3 := uh a.w3 b.w3 k2
    (k0.toNat ≤ 1 ∧ k1.toNat ≤ 1 ∧ k2.toNat ≤ 1) ∧ ui a b = (⟨rX a.w0 b.w0 0, rX a.w1 b.w1 k0, rX a.w2 b.w2 k1, rX a.w3 b.w3 k2⟩, !(k3 == 0)) := by
  intro k0 k1 k2 k3
  have l0 : k0.toNat ≤ 1 := zk (by decide)
  have l1 : k1.toNat ≤ 1 := zk l0
  have l2 : k2.toNat ≤ 1 := zk l1
  have l3 : k3.toNat ≤ 1 := zk l2
  refine ⟨⟨l0, l1, l2⟩, ?_⟩
  have h := Lt (kC a.w0 b.w0 0) (Lt (kC a.w1 b.w1 k0) (Lt (kC a.w2 b.w2 k1) (kC a.w3 b.w3 k2)))
  rw [show (0 : UInt64).toNat = 0 from rfl, Nat.add_zero] at h
  unfold ui
  have hn : a.nat + b.nat = (rX a.w0 b.w0 0).toNat + 18446744073709551616 * ((rX a.w1 b.w1 k0).toNat + 18446744073709551616 * ((rX a.w2 b.w2 k1).toNat + 18446744073709551616 * ((rX a.w3 b.w3 k2).toNat + 18446744073709551616 * k3.toNat))) := h
  rw [afQ hn]
  congr 1
  have hs := gD ⟨rX a.w0 b.w0 0, rX a.w1 b.w1 k0, rX a.w2 b.w2 k1, rX a.w3 b.w3 k2⟩
  unfold Sx.aa.nat at hs
  simp only at hs
  have hk : k3.toNat = 0 ∨ k3.toNat = 1 := by omega
  rcases hk with hk | hk
  · have e : k3 = 0 := UInt64.toNat_inj.1 hk
    rw [hk] at hn
    rw [e]
    cases hb : Nat.ble 115792089237316195423570985008687907853269984665640564039457584007913129639936 (a.nat + b.nat)
    · rfl
    · have := Nat.le_of_ble_eq_true hb
      omega
  · have e : (k3 == 0) = false := by
      have : ¬ k3 = 0 := fun e => by rw [e] at hk; cases hk
      simpa using this
    rw [hk] at hn
    rw [e]
    exact Nat.ble_eq_true_of_le (by omega)
theorem GG (a b : aa) : let k0 := LW a.w0 b.w0 0; let k1 := LW a.w1 b.w1 k0; let k2 := LW a.w2 b.w2 k1; let k3 := LW a.w3 b.w3 k2
    (k0.toNat ≤ 1 ∧ k1.toNat ≤ 1 ∧ k2.toNat ≤ 1) ∧ lk a b = (⟨mN a.w0 b.w0 0, mN a.w1 b.w1 k0, mN a.w2 b.w2 k1, mN a.w3 b.w3 k2⟩, !(k3 == 0)) := by
  intro k0 k1 k2 k3
  have l0 : k0.toNat ≤ 1 := xk
  have l1 : k1.toNat ≤ 1 := xk
  have l2 : k2.toNat ≤ 1 := xk
  have l3 : k3.toNat ≤ 1 := xk
  refine ⟨⟨l0, l1, l2⟩, ?_⟩
  have h := Ja (ux (x := a.w0) (y := b.w0) (c := 0) (by decide)) (Ja (ux (x := a.w1) (y := b.w1) l0) (Ja (ux (x := a.w2) (y := b.w2) l1) (ux (x := a.w3) (y := b.w3) l2)))
  rw [show (0 : UInt64).toNat = 0 from rfl, Nat.add_zero] at h
  unfold lk
  have hs := gD ⟨mN a.w0 b.w0 0, mN a.w1 b.w1 k0, mN a.w2 b.w2 k1, mN a.w3 b.w3 k2⟩
  have h' : a.nat + 18446744073709551616 * (18446744073709551616 * (18446744073709551616 * (18446744073709551616 * k3.toNat))) = aa.nat ⟨mN a.w0 b.w0 0, mN a.w1 b.w1 k0, mN a.w2 b.w2 k1, mN a.w3 b.w3 k2⟩ + b.nat := h
  have ha := gD a
  have hb := gD b
  have hS := gD ⟨mN a.w0 b.w0 0, mN a.w1 b.w1 k0, mN a.w2 b.w2 k1, mN a.w3 b.w3 k2⟩
  have e1 : ofN (a.nat + 115792089237316195423570985008687907853269984665640564039457584007913129639936 - b.nat) = ⟨mN a.w0 b.w0 0, mN a.w1 b.w1 k0, mN a.w2 b.w2 k1, mN a.w3 b.w3 k2⟩ := by
    apply j7
    rw [Sb]
    generalize aa.nat ⟨mN a.w0 b.w0 0, mN a.w1 b.w1 k0, mN a.w2 b.w2 k1, mN a.w3 b.w3 k2⟩ = S at *
    omega
  rw [e1]
  congr 1
  generalize aa.nat ⟨mN a.w0 b.w0 0, mN a.w1 b.w1 k0, mN a.w2 b.w2 k1, mN a.w3 b.w3 k2⟩ = S at *
  have hk : k3.toNat = 0 ∨ k3.toNat = 1 := by omega
  rcases hk with hk | hk
  · have e : k3 = 0 := UInt64.toNat_inj.1 hk
    rw [hk] at h'
    rw [e]
    cases hq : Nat.blt a.nat b.nat
    · rfl
    · have := cL hq
      omega
  · have e : (k3 == 0) = false := by
      have : ¬ k3 = 0 := fun e => by rw [e] at hk; cases hk
      simpa using this
    rw [hk] at h'
    rw [e]
    exact Nat.ble_eq_true_of_le (show a.nat + 1 ≤ b.nat by omega)
def lst (e : aa) : List UInt64 := [e.w0, e.w1, e.w2, e.w3]
def elemOf (l : List UInt64) : aa := ⟨l.getD 0 0, l.getD 1 0, l.getD 2 0, l.getD 3 0⟩
theorem bl {l : List UInt64} (h : l.length = 4) : lst (elemOf l) = l := by
  match l, h with
  | [a, b, c, d], _ => rfl
theorem abz (e : aa) : elemOf (lst e) = e := rfl
theorem cV (e : aa) : (lst e).length = 4 := rfl
theorem nr {h l y : UInt64} (hy : 0 < y.toNat) : (Pb h l y).toNat = (h.toNat * 18446744073709551616 + l.toNat) % y.toNat := by
  unfold Pb
  rw [UInt64.toNat_ofNat']
  exact Nat.mod_eq_of_lt (Nat.lt_trans (Nat.mod_lt _ hy) y.toNat_lt)
theorem Kl (r x m : Nat) : (r % m * 18446744073709551616 + x) % m = (r * 18446744073709551616 + x) % m := by
  rw [Nat.add_mod, Nat.mul_mod, Nat.mod_mod, ← Nat.mul_mod, ← Nat.add_mod]
theorem mJ {a b : aa} (h : b.nat ≤ a.nat) : (lk a b).1.nat = a.nat - b.nat := by
  have ha := gD a
  show (ofN _).nat = _
  rw [Sb]
  omega
theorem TR {w N r : Nat} (hr : r < 64) : (w + 18446744073709551616 * N) / 2 ^ r % 2 = w / 2 ^ r % 2 := by
  have e : 18446744073709551616 * N = 2 ^ r * (2 * (2 ^ (63 - r) * N)) := by
    rw [← Nat.mul_assoc, ← Nat.mul_assoc, Nat.mul_comm (2 ^ r) 2, Nat.mul_assoc 2, ← Nat.pow_add, show r + (63 - r) = 63 by omega]
  rw [e, Nat.add_mul_div_left _ _ (Nat.two_pow_pos r), Nat.add_mul_mod_self_left]
theorem xb {w N : Nat} (hw : w < 18446744073709551616) (r : Nat) : (w + 18446744073709551616 * N) / 2 ^ (64 + r) = N / 2 ^ r := by
  rw [Nat.pow_add, ← Nat.div_div_eq_div_mul, show 2 ^ 64 = 18446744073709551616 from rfl, show (w + 18446744073709551616 * N) / 18446744073709551616 = N by omega]
theorem YZ {a : aa} {q r : Nat} (hq : q < 4) (hr : r < 64) : ((lst a).getD q 0).toNat / 2 ^ r % 2 = a.nat / 2 ^ (64 * q + r) % 2 := by
  have h0 := a.w0.toNat_lt
  have h1 := a.w1.toNat_lt
  have h2 := a.w2.toNat_lt
  unfold Sx.aa.nat
  have hq' : q = 0 ∨ q = 1 ∨ q = 2 ∨ q = 3 := by omega
  rcases hq' with rfl | rfl | rfl | rfl
  · rw [Nat.mul_zero, Nat.zero_add, TR hr]; rfl
  · rw [show 64 * 1 + r = 64 + r by omega, xb h0, TR hr]; rfl
  · rw [show 64 * 2 + r = 64 + (64 + r) by omega, xb h0, xb h1, TR hr]; rfl
  · rw [show 64 * 3 + r = 64 + (64 + (64 + r)) by omega, xb h0, xb h1, xb h2]; rfl
def Bq (n i : Nat) : Bool := Nat.beq (n / 2 ^ i % 2) 1
theorem TQ (x : UInt64) : (x &&& 1 == 1) = Nat.beq (x.toNat % 2) 1 := by
  have e : (x &&& 1).toNat = x.toNat % 2 := by
    rw [UInt64.toNat_and]
    exact Nat.and_two_pow_sub_one_eq_mod x.toNat 1
  rw [← e]
  by_cases h : x &&& 1 = 1
  · rw [h]; rfl
  · have h' : ¬ (x &&& 1).toNat = 1 := fun h' => h (UInt64.toNat_inj.1 h')
    have h2 : Nat.beq (x &&& 1).toNat 1 = false := by
      cases hb : Nat.beq (x &&& 1).toNat 1
      · rfl
      · exact absurd (Nat.eq_of_beq_eq_true hb) h'
    rw [h2]
    simpa using h
abbrev uu : Ty := .prod .elem (.prod .elem (.prod .elem .bool))
end Go.Proofs.YtohjofabochgfaaGreat

namespace Go.Proofs.YtohjofabochgfaaGreat
open Sx Go
set_option maxRecDepth 100000
def Lr : av := ⟨[.val false .u64, .val false .u64, .val false .u64], [], true, 0, false⟩
abbrev aib : Type := ((UInt64) × (UInt64) × (UInt64) × Unit) × (Unit)
def aia : az := ⟨[.val false .u64, .val false .u64], [], false⟩
def zh (x : aib) : Bool := decide (x.1.2.2.1.toNat ≤ 1)
def Y3 (x : aib) : OT Lr.Y := .ok ⟨aia, ((rX x.1.1 x.1.2.1 x.1.2.2.1, uh x.1.1 x.1.2.1 x.1.2.2.1, ()), ())⟩
theorem ab1 (a b c : UInt64) (hc : c.toNat ≤ 1) (w : World) : (callFunc 151 #[fX a, fX b, fX c]).run Tryz.prog w = .ok (.value (.tuple #[fX (rX a b c), fX (uh a b c)])) w := by
  unfold fX
  rw [run_callFunc_extern Tryz.func151 (by kernel_rfl) (by kernel_rfl) (by kernel_rfl) (e := add64Entry) (by kernel_rfl), run_add64 (a.toNat : Int) (b.toNat : Int) (c.toNat : Int) (by omega) (by omega) (by omega) (by omega)]
  have ha := a.toNat_lt
  have hb := b.toNat_lt
  have e1 : (((rX a b c).toNat : Nat) : Int) = ((a.toNat : Int) + b.toNat + c.toNat) % 18446744073709551616 := by
    unfold rX
    rw [UInt64.toNat_ofNat', Nat.mod_eq_of_lt (by omega)]
    omega
  have e2 : (((uh a b c).toNat : Nat) : Int) = ((a.toNat : Int) + b.toNat + c.toNat) / 18446744073709551616 := by
    unfold uh
    rw [UInt64.toNat_ofNat', Nat.mod_eq_of_lt (by omega)]
    omega
  rw [e1, e2]
  rfl
theorem ah9 : ac Tryz.prog 151 (Lr.aH zh Y3) := by
  refine anC (k := 0) (by kernel_rfl) fun x oy vs N w hp ho hr => ?_
  obtain ⟨⟨a, b, c, ⟨⟩⟩, ⟨⟩⟩ := x
  cases ho
  have hc : c.toNat ≤ 1 := of_decide_eq_true hp
  have hr' : SV.bQ N [.u64 a, .u64 b, .u64 c] vs := hr
  simp only [SV.bQ, SV.rel] at hr'
  obtain ⟨_, _, rfl, rfl, _, _, rfl, rfl, _, _, rfl, rfl, rfl⟩ := hr'
  refine ⟨.tup [.u64 (rX a b c), .u64 (uh a b c)], _, ab1 a b c hc w, ?_, ⟨rfl, by kernel_rfl⟩⟩
  simp only [SV.rel]
  exact ⟨_, rfl, by simp only [SV.bQ, SV.rel]; exact ⟨_, _, rfl, rfl, _, _, rfl, rfl, rfl⟩⟩
def tF : cG := (Lr.aH zh Y3)
theorem PW : ac Tryz.prog 151 tF := ah9
theorem PV : aK tF := aB
def LU : Env := aA 151 tF E0
theorem Ur : aV Tryz.prog LU := ai PW aui
theorem LS : ax LU := ae PV arq
def Lh : av := ⟨[.val false .u64, .val false .u64, .val false .u64], [], true, 0, false⟩
abbrev ahX : Type := ((UInt64) × (UInt64) × (UInt64) × Unit) × (Unit)
def ahW : az := ⟨[.val false .u64, .val false .u64], [], false⟩
def y9 (x : ahX) : Bool := decide (x.1.2.2.1.toNat ≤ 1)
def YV (x : ahX) : OT Lh.Y := .ok ⟨ahW, ((mN x.1.1 x.1.2.1 x.1.2.2.1, LW x.1.1 x.1.2.1 x.1.2.2.1, ()), ())⟩
def am8 : Array Value → Sem Value := fun args => do
  let (x, y, b) ← Extern.MathBitsCarry.three "Sub64" args
  pure (Extern.MathBitsCarry.pair ((x + Extern.MathBitsCarry.m64 - y - b) % Extern.MathBitsCarry.m64) (if x < y + b then 1 else 0))
theorem Zr {P : Program} (x y b : Nat) (hb : b ≤ 1) (w : World) :
    (am8 #[.int .u64 x, .int .u64 y, .int .u64 b]).run P w =
      .ok (.tuple #[.int .u64 (((x + 18446744073709551616 - y - b) % 18446744073709551616 : Nat) : Int), .int .u64 ((if x < y + b then 1 else 0 : Nat) : Int)]) w := by
  have : b = 0 ∨ b = 1 := by omega
  rcases this with rfl | rfl <;> rfl
theorem abZ (a b c : UInt64) (hc : c.toNat ≤ 1) (w : World) : (callFunc 153 #[fX a, fX b, fX c]).run Tryz.prog w = .ok (.value (.tuple #[fX (mN a b c), fX (LW a b c)])) w := by
  unfold fX
  rw [run_callFunc_extern Tryz.func153 (by kernel_rfl) (by kernel_rfl) (by kernel_rfl) (e := am8) (by kernel_rfl), Zr a.toNat b.toNat c.toNat (by omega)]
  have ha := a.toNat_lt
  have hb := b.toNat_lt
  have e1 : (mN a b c).toNat = (a.toNat + 18446744073709551616 - b.toNat - c.toNat) % 18446744073709551616 := by
    unfold mN
    rw [UInt64.toNat_ofNat', Nat.mod_eq_of_lt (by omega)]
  have e2 : (LW a b c).toNat = if a.toNat < b.toNat + c.toNat then 1 else 0 := by
    unfold LW
    rw [UInt64.toNat_ofNat', Nat.mod_eq_of_lt (by split <;> omega)]
  rw [e1, e2]
  rfl
theorem ahV : ac Tryz.prog 153 (Lh.aH y9 YV) := by
  refine anC (k := 0) (by kernel_rfl) fun x oy vs N w hp ho hr => ?_
  obtain ⟨⟨a, b, c, ⟨⟩⟩, ⟨⟩⟩ := x
  cases ho
  have hc : c.toNat ≤ 1 := of_decide_eq_true hp
  have hr' : SV.bQ N [.u64 a, .u64 b, .u64 c] vs := hr
  simp only [SV.bQ, SV.rel] at hr'
  obtain ⟨_, _, rfl, rfl, _, _, rfl, rfl, _, _, rfl, rfl, rfl⟩ := hr'
  refine ⟨.tup [.u64 (mN a b c), .u64 (LW a b c)], _, abZ a b c hc w, ?_, ⟨rfl, by kernel_rfl⟩⟩
  simp only [SV.rel]
  exact ⟨_, rfl, by simp only [SV.bQ, SV.rel]; exact ⟨_, _, rfl, rfl, _, _, rfl, rfl, rfl⟩⟩
def tB : cG := (Lh.aH y9 YV)
theorem PA : ac Tryz.prog 153 tB := ahV
theorem Pz : aK tB := aB
def wT : Env := aA 153 tB LU
theorem tZ : aV Tryz.prog wT := ai PA Ur
theorem wS : ax wT := ae Pz LS
theorem Qt : aZ Tryz.prog te wT := aN follows au tZ wS
def gT : av := ⟨[.val false .u64, .val false .u64], [], true, 0, false⟩
abbrev zb : Type := ((UInt64) × (UInt64) × Unit) × (Unit)
def ES : az := ⟨[.val false .u64, .val false .u64], [], false⟩
def Ix : SV → Option az := fun _ => some ES
def BS (a0 : UInt64) (a1 : UInt64) : OT gT.Y :=
  let z0 : UInt64 := bA a0 (32 : Int)
  let z1 : UInt64 := bA a1 (32 : Int)
  let z2 : UInt64 := z0 * (a1 &&& (4294967295 : UInt64)) + bA ((a0 &&& (4294967295 : UInt64)) * (a1 &&& (4294967295 : UInt64))) (32 : Int)
  (.ok ⟨ES, ((z0 * z1 + bA z2 (32 : Int) + bA ((z2 &&& (4294967295 : UInt64)) + (a0 &&& (4294967295 : UInt64)) * z1) (32 : Int), (a0 * a1, ())), ())⟩)
theorem amM (x : zb) (Q : gT.Y → Prop) : wpf te wT ay 1000 Tryz.f165 (gT.inp.inj x).tm (gT.inp.inj x).hp (fnK gT Ix Q) (fun _ _ => False) = (BS (x.1.1) (x.1.2.1)).wpR Q := by kernel_rfl
theorem TL (pre : zb → Bool) (F : zb → OT gT.Y) (hF : ∀ (x : zb) oy, pre x = true → (F x).run = some oy → (BS (x.1.1) (x.1.2.1)).run = some oy) : ac Tryz.prog 165 (gT.aH pre F) :=
  aC au tZ Qt (f := 165) (fn := Tryz.f165) (c := ao Tryz.f165) (by kernel_rfl) (by kernel_rfl) (by kernel_rfl) (S := gT) (k := 0) (by kernel_rfl) (fun R hR => af) (n := 1000) (sel := Ix) (fun v o h => by cases h; rfl) (pre := pre) (F := F) (T := fun x => BS (x.1.1) (x.1.2.1)) (fun x Q => amM x Q) hF
def Iy (_ : zb) : Bool := true
def Li (x : zb) : OT gT.Y := .ok ⟨ES, ((aix x.1.1 x.1.2.1, (x.1.1 * x.1.2.1, ())), ())⟩
theorem ahY : ac Tryz.prog 165 (gT.aH Iy Li) := TL _ _ fun x oy _ ho => by
  rw [← ho]
  simp only [Li, BS, asw]
def tC : cG := (gT.aH Iy Li)
theorem PD : ac Tryz.prog 165 tC := ahY
theorem PC : aK tC := aB
def wV : Env := aA 165 tC wT
theorem ua : aV Tryz.prog wV := ai PD tZ
theorem wU : ax wV := ae PC wS
theorem Qu : aZ Tryz.prog te wV := aN follows au ua wU
def gU : av := ⟨[.val false .u64], [], true, 0, false⟩
abbrev zf : Type := ((UInt64) × Unit) × (Unit)
def ez : az := ⟨[.val false .int], [], false⟩
def IA : SV → Option az := fun _ => some ez
def vP (a0 : UInt64) : OT gU.Y :=
  let z0 : UInt64 := bA a0 (32 : Int)
  let z1 : UInt64 := bA z0 (16 : Int)
  let z2 : Int := (↑(UInt8.toNat (UInt64.toUInt8 (bA z1 (8 : Int)))) : Int)
  let z3 : List UInt8 := List.replicate 64 (8 : UInt8)
  let z4 : List UInt8 := List.append (List.append [(0 : UInt8), (1 : UInt8), (2 : UInt8), (2 : UInt8), (3 : UInt8), (3 : UInt8), (3 : UInt8), (3 : UInt8), (4 : UInt8), (4 : UInt8), (4 : UInt8), (4 : UInt8), (4 : UInt8), (4 : UInt8), (4 : UInt8), (4 : UInt8), (5 : UInt8), (5 : UInt8), (5 : UInt8), (5 : UInt8), (5 : UInt8), (5 : UInt8), (5 : UInt8), (5 : UInt8), (5 : UInt8), (5 : UInt8), (5 : UInt8), (5 : UInt8), (5 : UInt8), (5 : UInt8), (5 : UInt8), (5 : UInt8), (6 : UInt8), (6 : UInt8), (6 : UInt8), (6 : UInt8), (6 : UInt8), (6 : UInt8), (6 : UInt8), (6 : UInt8), (6 : UInt8), (6 : UInt8), (6 : UInt8), (6 : UInt8), (6 : UInt8), (6 : UInt8), (6 : UInt8), (6 : UInt8), (6 : UInt8), (6 : UInt8), (6 : UInt8), (6 : UInt8), (6 : UInt8), (6 : UInt8), (6 : UInt8), (6 : UInt8), (6 : UInt8), (6 : UInt8), (6 : UInt8), (6 : UInt8), (6 : UInt8), (6 : UInt8), (6 : UInt8), (6 : UInt8)] (List.replicate 64 (7 : UInt8))) (List.append z3 z3)
  let z5 : Int := (56 : Int) + (↑(UInt8.toNat (List.getD z4 (Int.toNat z2) (0 : UInt8))) : Int)
  let z6 : Int := (↑(UInt8.toNat (UInt64.toUInt8 z1)) : Int)
  let z7 : Int := (48 : Int) + (↑(UInt8.toNat (List.getD z4 (Int.toNat z6) (0 : UInt8))) : Int)
  let z8 : Int := (↑(UInt8.toNat (UInt64.toUInt8 (bA z0 (8 : Int)))) : Int)
  let z9 : Int := (40 : Int) + (↑(UInt8.toNat (List.getD z4 (Int.toNat z8) (0 : UInt8))) : Int)
  let z10 : Int := (↑(UInt8.toNat (UInt64.toUInt8 z0)) : Int)
  let z11 : Int := (32 : Int) + (↑(UInt8.toNat (List.getD z4 (Int.toNat z10) (0 : UInt8))) : Int)
  let z12 : UInt64 := bA a0 (16 : Int)
  let z13 : Int := (↑(UInt8.toNat (UInt64.toUInt8 (bA z12 (8 : Int)))) : Int)
  let z14 : Int := (24 : Int) + (↑(UInt8.toNat (List.getD z4 (Int.toNat z13) (0 : UInt8))) : Int)
  let z15 : Int := (↑(UInt8.toNat (UInt64.toUInt8 z12)) : Int)
  let z16 : Int := (16 : Int) + (↑(UInt8.toNat (List.getD z4 (Int.toNat z15) (0 : UInt8))) : Int)
  let z17 : Int := (↑(UInt8.toNat (UInt64.toUInt8 (bA a0 (8 : Int)))) : Int)
  let z18 : Int := (8 : Int) + (↑(UInt8.toNat (List.getD z4 (Int.toNat z17) (0 : UInt8))) : Int)
  let z19 : Int := (↑(UInt8.toNat (UInt64.toUInt8 a0)) : Int)
  let z20 : Int := (0 : Int) + (↑(UInt8.toNat (List.getD z4 (Int.toNat z19) (0 : UInt8))) : Int)
  (.br (decide ((4294967296 : UInt64) ≤ a0))
  (.br (decide ((65536 : UInt64) ≤ z0))
    (.br (decide ((256 : UInt64) ≤ z1))
      (gd [inB z2 256, inR z5] (.ok ⟨ez, ((z5, ()), ())⟩))
      (gd [inB z6 256, inR z7] (.ok ⟨ez, ((z7, ()), ())⟩)))
    (.br (decide ((256 : UInt64) ≤ z0))
      (gd [inB z8 256, inR z9] (.ok ⟨ez, ((z9, ()), ())⟩))
      (gd [inB z10 256, inR z11] (.ok ⟨ez, ((z11, ()), ())⟩))))
  (.br (decide ((65536 : UInt64) ≤ a0))
    (.br (decide ((256 : UInt64) ≤ z12))
      (gd [inB z13 256, inR z14] (.ok ⟨ez, ((z14, ()), ())⟩))
      (gd [inB z15 256, inR z16] (.ok ⟨ez, ((z16, ()), ())⟩)))
    (.br (decide ((256 : UInt64) ≤ a0))
      (gd [inB z17 256, inR z18] (.ok ⟨ez, ((z18, ()), ())⟩))
      (gd [inB z19 256, inR z20] (.ok ⟨ez, ((z20, ()), ())⟩)))))
theorem amO (x : zf) (Q : gU.Y → Prop) : wpf te wV ay 1000 Tryz.f166 (gU.inp.inj x).tm (gU.inp.inj x).hp (fnK gU IA Q) (fun _ _ => False) = (vP (x.1.1)).wpR Q := by kernel_rfl
theorem TP (pre : zf → Bool) (F : zf → OT gU.Y) (hF : ∀ (x : zf) oy, pre x = true → (F x).run = some oy → (vP (x.1.1)).run = some oy) : ac Tryz.prog 166 (gU.aH pre F) :=
  aC au ua Qu (f := 166) (fn := Tryz.f166) (c := ao Tryz.f166) (by kernel_rfl) (by kernel_rfl) (by kernel_rfl) (S := gU) (k := 0) (by kernel_rfl) (fun R hR => af) (n := 1000) (sel := IA) (fun v o h => by cases h; rfl) (pre := pre) (F := F) (T := fun x => vP (x.1.1)) (fun x Q => amO x Q) hF
def eY (x : UInt64) : Bool := (x == 16513537) || (x == 16521217)
theorem dw {x : UInt64} (h : eY x = true) : x = 16513537 ∨ x = 16521217 := by
  simpa [eY] using h
def zd (x : zf) : Bool := eY x.1.1
def YY (_ : zf) : OT gU.Y := .ok ⟨ez, (((24 : Int), ()), ())⟩
theorem PI : (vP 16513537).run = some ⟨ez, (((24 : Int), ()), ())⟩ ∧ (vP 16521217).run = some ⟨ez, (((24 : Int), ()), ())⟩ := ⟨by kernel_rfl, by kernel_rfl⟩
theorem ah0 : ac Tryz.prog 166 (gU.aH zd YY) := TP _ _ fun x oy hp ho => by
  rw [← ho]
  clear ho
  obtain ⟨⟨x, ⟨⟩⟩, ⟨⟩⟩ := x
  rcases dw hp with h | h
  · have h : x = 16513537 := h
    subst h
    exact PI.1
  · have h : x = 16521217 := h
    subst h
    exact PI.2
def tD : cG := (gU.aH zd YY)
theorem PH : ac Tryz.prog 166 tD := ah0
theorem PG : aK tD := aB
def wX : Env := aA 166 tD wV
theorem ud : aV Tryz.prog wX := ai PH ua
theorem wW : ax wX := ae PG wU
theorem Qv : aZ Tryz.prog te wX := aN follows au ud wW
def kw : av := ⟨[.val false .u64], [], true, 0, false⟩
abbrev Iz : Type := ((UInt64) × Unit) × (Unit)
def Lj : az := ⟨[.val false .int], [], false⟩
def PE : SV → Option az := fun _ => some Lj
def TO (a0 : UInt64) : OT kw.Y :=
  (gd [zd ((a0, ()), ())] (.ok ⟨Lj, (((40 : Int), ()), ())⟩))
theorem arh (x : Iz) (Q : kw.Y → Prop) : wpf te wX ay 1000 Tryz.f154 (kw.inp.inj x).tm (kw.inp.inj x).hp (fnK kw PE Q) (fun _ _ => False) = (TO (x.1.1)).wpR Q := by kernel_rfl
theorem ab0 (pre : Iz → Bool) (F : Iz → OT kw.Y) (hF : ∀ (x : Iz) oy, pre x = true → (F x).run = some oy → (TO (x.1.1)).run = some oy) : ac Tryz.prog 154 (kw.aH pre F) :=
  aC au ud Qv (f := 154) (fn := Tryz.f154) (c := ao Tryz.f154) (by kernel_rfl) (by kernel_rfl) (by kernel_rfl) (S := kw) (k := 0) (by kernel_rfl) (fun R hR => af) (n := 1000) (sel := PE) (fun v o h => by cases h; rfl) (pre := pre) (F := F) (T := fun x => TO (x.1.1)) (fun x Q => arh x Q) hF
def ET (x : Iz) : Bool := eY x.1.1
def ahZ (_ : Iz) : OT kw.Y := .ok ⟨Lj, (((40 : Int), ()), ())⟩
theorem amN : ac Tryz.prog 154 (kw.aH ET ahZ) := ab0 _ _ fun x oy hp ho => by
  rw [← ho]
  clear ho
  obtain ⟨⟨x, ⟨⟩⟩, ⟨⟩⟩ := x
  have hp : eY x = true := hp
  refine (al ?_).trans rfl
  simp only [List.all_cons, List.all_nil, Bool.and_true, Bool.and_eq_true]
  first | exact hp | exact ⟨hp, rfl⟩
def zc : cG := (kw.aH ET ahZ)
theorem TN : ac Tryz.prog 154 zc := amN
theorem TM : aK zc := aB
def uc : Env := aA 154 zc wX
theorem mH : aV Tryz.prog uc := ai TN ud
theorem A8 : ax uc := ae TM wW
theorem ub : aZ Tryz.prog te uc := aN follows au mH A8
def fH : av := ⟨[.val false .u64, .val false .u64, .val false .u64], [], true, 0, false⟩
abbrev zg : Type := ((UInt64) × (UInt64) × (UInt64) × Unit) × (Unit)
def pN : Shape := ⟨135, [(2, .val false .u64), (8, .val false .u64), (9, .val false .u64), (10, .val false .u64), (11, .val false .u64), (13, .val false .u64), (14, .val false .u64), (15, .val false .u64), (16, .val false .u64)], [], 0, true⟩
abbrev ck : Type := ((UInt64) × (UInt64) × (UInt64) × (UInt64) × (UInt64) × (UInt64) × (UInt64) × (UInt64) × (UInt64) × Unit) × (Unit)
def kA : Shape := ⟨135, [(2, .val false .u64), (8, .val false .u64), (9, .val false .u64), (10, .val false .u64), (11, .val false .u64), (13, .val false .u64), (14, .val false .u64), (15, .val false .u64)], [], 0, true⟩
abbrev iM : Type := ((UInt64) × (UInt64) × (UInt64) × (UInt64) × (UInt64) × (UInt64) × (UInt64) × (UInt64) × Unit) × (Unit)
def PN : SE → Option Shape := jr [(0, kA)] none
def ah8 (a2 : UInt64) (a8 : UInt64) (a9 : UInt64) (a10 : UInt64) (a11 : UInt64) (a13 : UInt64) (a14 : UInt64) (a15 : UInt64) (a16 : UInt64) : OT (Sum ck aP) :=
  let z0 : Bool := decide ((4294967296 : UInt64) ≤ a16 + a9)
  (.br (decide ((4294967296 : UInt64) ≤ a15))
  (.br (z0)
    (.ok (.inr ⟨(.exit 0, kA), ((a2, (a8, (a9, (a10, (a11, (a13, (a14, (a15 - (1 : UInt64), ())))))))), ())⟩))
    (.ok (.inl ((a2, (a8, (a9, (a10, (a11, (a13, (a14, (a15 - (1 : UInt64), (a16 + a9, ()))))))))), ()))))
  (.br (decide ((4294967296 : UInt64) * a16 + a13 < a15 * a10))
    (.br (z0)
      (.ok (.inr ⟨(.exit 0, kA), ((a2, (a8, (a9, (a10, (a11, (a13, (a14, (a15 - (1 : UInt64), ())))))))), ())⟩))
      (.ok (.inl ((a2, (a8, (a9, (a10, (a11, (a13, (a14, (a15 - (1 : UInt64), (a16 + a9, ()))))))))), ()))))
    (.ok (.inr ⟨(.exit 0, kA), ((a2, (a8, (a9, (a10, (a11, (a13, (a14, (a15, ())))))))), ())⟩))))
def vV (s : ck) : OT (Sum ck aP) := ah8 (s.1.1) (s.1.2.1) (s.1.2.2.1) (s.1.2.2.2.1) (s.1.2.2.2.2.1) (s.1.2.2.2.2.2.1) (s.1.2.2.2.2.2.2.1) (s.1.2.2.2.2.2.2.2.1) (s.1.2.2.2.2.2.2.2.2.1)
theorem ah3 (s : ck) (Q : Sum ck aP → Prop) : wps te uc ay 1000 (bF (ao Tryz.f128) 0) (pN.inj s) (cQ pN PN (Q : Sum pN.T aP → Prop)) = (vV s).wpR Q := by kernel_rfl
def vT (g0_0 : ck → iM) (s : ck) : OT aP := (.ok ⟨(.exit 0, kA), g0_0 s⟩)
def pM : Shape := ⟨135, [(2, .val false .u64), (8, .val false .u64), (9, .val false .u64), (10, .val false .u64), (14, .val false .u64), (15, .val false .u64), (16, .val false .u64), (17, .val false .u64), (18, .val false .u64)], [], 0, true⟩
abbrev cj : Type := ((UInt64) × (UInt64) × (UInt64) × (UInt64) × (UInt64) × (UInt64) × (UInt64) × (UInt64) × (UInt64) × Unit) × (Unit)
def ky : Shape := ⟨135, [(2, .val false .u64), (8, .val false .u64), (14, .val false .u64), (15, .val false .u64), (17, .val false .u64), (18, .val false .u64)], [], 0, true⟩
abbrev iL : Type := ((UInt64) × (UInt64) × (UInt64) × (UInt64) × (UInt64) × (UInt64) × Unit) × (Unit)
def PM : SE → Option Shape := jr [(2, ky)] none
def ah7 (a2 : UInt64) (a8 : UInt64) (a9 : UInt64) (a10 : UInt64) (a14 : UInt64) (a15 : UInt64) (a16 : UInt64) (a17 : UInt64) (a18 : UInt64) : OT (Sum cj aP) :=
  let z0 : Bool := decide ((4294967296 : UInt64) ≤ a16 + a9)
  (.br (decide ((4294967296 : UInt64) ≤ a18))
  (.br (z0)
    (.ok (.inr ⟨(.exit 2, ky), ((a2, (a8, (a14, (a15, (a17, (a18 - (1 : UInt64), ())))))), ())⟩))
    (.ok (.inl ((a2, (a8, (a9, (a10, (a14, (a15, (a16 + a9, (a17, (a18 - (1 : UInt64), ()))))))))), ()))))
  (.br (decide ((4294967296 : UInt64) * a16 + a14 < a18 * a10))
    (.br (z0)
      (.ok (.inr ⟨(.exit 2, ky), ((a2, (a8, (a14, (a15, (a17, (a18 - (1 : UInt64), ())))))), ())⟩))
      (.ok (.inl ((a2, (a8, (a9, (a10, (a14, (a15, (a16 + a9, (a17, (a18 - (1 : UInt64), ()))))))))), ()))))
    (.ok (.inr ⟨(.exit 2, ky), ((a2, (a8, (a14, (a15, (a17, (a18, ())))))), ())⟩))))
def vU (s : cj) : OT (Sum cj aP) := ah7 (s.1.1) (s.1.2.1) (s.1.2.2.1) (s.1.2.2.2.1) (s.1.2.2.2.2.1) (s.1.2.2.2.2.2.1) (s.1.2.2.2.2.2.2.1) (s.1.2.2.2.2.2.2.2.1) (s.1.2.2.2.2.2.2.2.2.1)
theorem ah2 (s : cj) (Q : Sum cj aP → Prop) : wps te uc ay 1000 (bF (ao Tryz.f128) 2) (pM.inj s) (cQ pM PM (Q : Sum pM.T aP → Prop)) = (vU s).wpR Q := by kernel_rfl
def vS (g2_2 : cj → iL) (s : cj) : OT aP := (.ok ⟨(.exit 2, ky), g2_2 s⟩)
def my : az := ⟨[.val false .u64, .val false .u64], [], false⟩
def IB : SV → Option az := fun _ => some my
def BU (ok0 : ck → Bool) (g0_0 : ck → iM) (ok2 : cj → Bool) (g2_2 : cj → iL) (a0 : UInt64) (a1 : UInt64) (a2 : UInt64) : OT fH.Y :=
  let z0 : Bool := !a2 == (0 : UInt64)
  let z1 : UInt64 := cA a2 (40 : Int)
  let z2 : UInt64 := bA z1 (32 : Int)
  let z3 : UInt64 := cA a0 (40 : Int) ||| bA a1 (24 : Int)
  let z4 : UInt64 := cA a1 (40 : Int)
  let z5 : UInt64 := z3 / z2
  let z6 : (UInt64 × UInt64 × UInt64 × UInt64 × UInt64 × UInt64 × UInt64 × UInt64 × UInt64 × PUnit) × PUnit := ((z1, (40 : UInt64), z2, z1 &&& (4294967295 : UInt64), z3, bA z4 (32 : Int), z4 &&& (4294967295 : UInt64), z5, z3 - z5 * z2, ()), ())
  let z7 := (g0_0 z6).fst
  let z8 := z7.snd
  let z9 := z8.snd
  let z10 := z9.fst
  let z11 := z7.fst
  let z12 := z9.snd
  let z13 := z12.snd
  let z14 := z13.snd
  let z15 := z14.snd
  let z16 := z15.snd.fst
  let z17 : UInt64 := z13.fst * (4294967296 : UInt64) + z14.fst - z16 * z11
  let z18 : UInt64 := z17 / z10
  let z19 : (UInt64 × UInt64 × UInt64 × UInt64 × UInt64 × UInt64 × UInt64 × UInt64 × UInt64 × PUnit) × PUnit := ((z11, z8.fst, z10, z12.fst, z15.fst, z16, z17 - z18 * z10, z17, z18, ()), ())
  let z20 := (g2_2 z19).fst
  let z21 := z20.snd
  let z22 := z21.snd
  let z23 := z22.snd
  let z24 := z23.snd
  let z25 := z24.snd.fst
  (.br (a2 == (0 : UInt64))
  .fail
  (.br (decide (a2 ≤ a0))
    .fail
    (.br (a0 == (0 : UInt64))
      (gd [z0, z0] (.ok ⟨my, ((a1 / a2, (a1 % a2, ())), ())⟩))
      (gd [ET ((a2, ()), ()), !z2 == (0 : UInt64), ok0 z6, !z10 == (0 : UInt64), ok2 z19] (.ok ⟨my, ((z23.fst * (4294967296 : UInt64) + z25, (bA (z24.fst * (4294967296 : UInt64) + z22.fst - z25 * z20.fst) (↑(UInt64.toNat z21.fst) : Int), ())), ())⟩)))))
theorem amP (ok0 : ck → Bool) (g0_0 : ck → iM) (ok2 : cj → Bool) (g2_2 : cj → iL) (x : zg) (Q : fH.Y → Prop) : wpf te uc (bg 2 (di pM 2 ok2 (vS g2_2)) (bg 0 (di pN 0 ok0 (vT g0_0)) ay)) 1000 Tryz.f128 (fH.inp.inj x).tm (fH.inp.inj x).hp (fnK fH IB Q) (fun _ _ => False) = (BU ok0 g0_0 ok2 g2_2 (x.1.1) (x.1.2.1) (x.1.2.2.1)).wpR Q := by kernel_rfl
theorem TU (ok0 : ck → Bool) (g0_0 : ck → iM) (ok2 : cj → Bool) (g2_2 : cj → iL) (h0 : ∀ s : ck, ok0 s = true → ∃ m e, aq (vV) m s = some e ∧ (vT g0_0 s).run = some e) (h2 : ∀ s : cj, ok2 s = true → ∃ m e, aq (vU) m s = some e ∧ (vS g2_2 s).run = some e) (pre : zg → Bool) (F : zg → OT fH.Y) (hF : ∀ (x : zg) oy, pre x = true → (F x).run = some oy → (BU ok0 g0_0 ok2 g2_2 (x.1.1) (x.1.2.1) (x.1.2.2.1)).run = some oy) : ac Tryz.prog 128 (fH.aH pre F) :=
  aC au mH ub (f := 128) (fn := Tryz.f128) (c := ao Tryz.f128) (by kernel_rfl) (by kernel_rfl) (by kernel_rfl) (S := fH) (k := 0) (by kernel_rfl) (fun R hR => (aF (c := (ao Tryz.f128)) (by kernel_rfl) (id := 2) (by kernel_rfl) (bt au mH ub (sh := pM) hR (xs := PM) (aG (by kernel_rfl) (by kernel_rfl) hR) aW af (n := 1000) (T := vU) (fun s Q => ah2 s Q) (ok := ok2) (f := vS g2_2) h2) (aF (c := (ao Tryz.f128)) (by kernel_rfl) (id := 0) (by kernel_rfl) (bt au mH ub (sh := pN) hR (xs := PN) (aG (by kernel_rfl) (by kernel_rfl) hR) aW af (n := 1000) (T := vV) (fun s Q => ah3 s Q) (ok := ok0) (f := vT g0_0) h0) af))) (n := 1000) (sel := IB) (fun v o h => by cases h; rfl) (pre := pre) (F := F) (T := fun x => BU ok0 g0_0 ok2 g2_2 (x.1.1) (x.1.2.1) (x.1.2.2.1)) (fun x Q => amP ok0 g0_0 ok2 g2_2 x Q) hF
def ID (s : ck) : Bool := decide (s.1.2.2.2.1 = 0 ∧ s.1.2.2.2.2.2.2.2.1 < 4294967296)
def PS (s : ck) : iM := ((s.1.1, s.1.2.1, s.1.2.2.1, s.1.2.2.2.1, s.1.2.2.2.2.1, s.1.2.2.2.2.2.1, s.1.2.2.2.2.2.2.1, s.1.2.2.2.2.2.2.2.1, ()), ())
theorem De {a b : UInt64} (h : b < a) : decide (a ≤ b) = false := decide_eq_false (by rw [UInt64.le_iff_toNat_le, UInt64.lt_iff_toNat_lt] at *; omega)
theorem not_lt_zero {a b : UInt64} : decide (a < b * 0) = false := decide_eq_false (by
  have : b * 0 = 0 := by rw [← UInt64.toNat_inj]; simp
  rw [this, UInt64.lt_iff_toNat_lt]
  exact Nat.not_lt_zero _)
theorem ah6 : ∀ s : ck, ID s = true → ∃ m e, aq vV m s = some e ∧ (vT PS s).run = some e := by
  rintro ⟨⟨a2, a8, a9, a10, a11, a13, a14, a15, a16, ⟨⟩⟩, ⟨⟩⟩ h
  have h' := of_decide_eq_true h
  dsimp only at h'
  obtain ⟨rfl, hl⟩ := h'
  exact ⟨1, _, aL ((OT.aw (De hl)).trans (OT.aw not_lt_zero)), rfl⟩
def IC (s : cj) : Bool := decide (s.1.2.2.2.1 = 0 ∧ s.1.2.2.2.2.2.2.2.2.1 < 4294967296)
def PR (s : cj) : iL := ((s.1.1, s.1.2.1, s.1.2.2.2.2.1, s.1.2.2.2.2.2.1, s.1.2.2.2.2.2.2.2.1, s.1.2.2.2.2.2.2.2.2.1, ()), ())
theorem ah5 : ∀ s : cj, IC s = true → ∃ m e, aq vU m s = some e ∧ (vS PR s).run = some e := by
  rintro ⟨⟨a2, a8, a9, a10, a14, a15, a16, a17, a18, ⟨⟩⟩, ⟨⟩⟩ h
  have h' := of_decide_eq_true h
  dsimp only at h'
  obtain ⟨rfl, hl⟩ := h'
  exact ⟨1, _, aL ((OT.aw (De hl)).trans (OT.aw not_lt_zero)), rfl⟩
def rC (x : zg) : Bool := eY x.1.2.2.1 && decide (x.1.1 < x.1.2.2.1)
def Lp (x : zg) : OT fH.Y := .ok ⟨my, ((arF x.1.1 x.1.2.1 x.1.2.2.1, Pb x.1.1 x.1.2.1 x.1.2.2.1, ()), ())⟩
theorem acu {v z : Nat} (hv : v < 4294967296) (hz : z < 4294967296) : (v * 4294967296 % 2 ^ 64 + z) % 2 ^ 64 = (v * (256 * 16777216) + z) % 2 ^ 64 := by
  rw [Nat.mod_eq_of_lt (a := v * 4294967296) (by omega)]
theorem aiB {s : Nat} (hs : s < 4294967296) : s * 4294967296 / 2 ^ 40 = s / 256 % 2 ^ 64 := by
  rw [Nat.mod_eq_of_lt (by omega), show (2 : Nat) ^ 40 = 256 * 4294967296 from rfl, Nat.mul_div_mul_right _ _ (by omega)]
theorem PO {h l y : UInt64} {m : Nat} (hm : y.toNat = m) (hy : (cA y 40).toNat = m * 1099511627776) (hy1 : (bA (cA y 40) 32).toNat = m * 256) (hy0 : cA y 40 &&& 4294967295 = 0) (hm0 : 0 < m) (hm1 : m < 16777216) (hh : h.toNat < m) :
    let u := cA h 40 ||| bA l 24
    let q1 := u / bA (cA y 40) 32
    let un21 := u * 4294967296 + bA (cA l 40) 32 - q1 * cA y 40
    let q0 := un21 / bA (cA y 40) 32
    q1 < 4294967296 ∧ q0 < 4294967296 ∧ q1 * 4294967296 + q0 = arF h l y ∧ bA (un21 * 4294967296 + (cA l 40 &&& 4294967295) - q0 * cA y 40) 40 = Pb h l y := by
  intro u q1 un21 q0
  have hl := l.toNat_lt
  have hu : u.toNat = h.toNat * 1099511627776 + l.toNat / 16777216 := by
    have e1 : (cA h 40).toNat = h.toNat * 1099511627776 := by
      rw [show ((40 : Int)) = ((40 : Nat) : Int) from rfl, lC _ _ (by omega)]
      exact Nat.mod_eq_of_lt (by omega)
    have e2 : (bA l 24).toNat = l.toNat / 16777216 := gg l 24 (by omega)
    simp only [u]
    rw [UInt64.toNat_or, e1, e2, Nat.mul_comm]
    have := Nat.two_pow_add_eq_or_of_lt (i := 40) (b := l.toNat / 16777216) (by omega) h.toNat
    exact this.symm
  have hun1 : (bA (cA l 40) 32).toNat = l.toNat % 16777216 * 256 := by
    rw [show ((32 : Int)) = ((32 : Nat) : Int) from rfl, gg _ _ (by omega), show ((40 : Int)) = ((40 : Nat) : Int) from rfl, lC _ _ (by omega)]
    omega
  have hun0 : cA l 40 &&& 4294967295 = 0 := by
    rw [← UInt64.toNat_inj, iq, show ((40 : Int)) = ((40 : Nat) : Int) from rfl, lC _ _ (by omega)]
    show l.toNat * 2 ^ 40 % 2 ^ 64 % 4294967296 = 0
    omega
  have hq1 : q1.toNat = u.toNat / (m * 256) := by simp only [q1]; rw [UInt64.toNat_div, hy1]
  have hN : h.toNat * 18446744073709551616 + l.toNat = u.toNat * 16777216 + l.toNat % 16777216 := by rw [hu]; omega
  have hqr : u.toNat = q1.toNat * (m * 256) + u.toNat % (m * 256) := by
    rw [hq1, Nat.mul_comm]
    exact (Nat.div_add_mod _ _).symm
  have hr : u.toNat % (m * 256) < m * 256 := Nat.mod_lt _ (by omega)
  have hul : u.toNat < m * 256 * 4294967296 := by rw [hu]; omega
  have hq1l : q1.toNat < 4294967296 := by rw [hq1]; exact Nat.div_lt_of_lt_mul hul
  generalize hrr : u.toNat % (m * 256) = r at *
  have hprod : q1.toNat * (m * 1099511627776) = q1.toNat * (m * 256) * 4294967296 := by
    rw [Nat.mul_assoc, Nat.mul_assoc]
  have h21 : un21.toNat = r * 4294967296 + l.toNat % 16777216 * 256 := by
    simp only [un21]
    rw [UInt64.toNat_sub, UInt64.toNat_add, UInt64.toNat_mul, UInt64.toNat_mul, hun1, hy, hprod, show (4294967296 : UInt64).toNat = 4294967296 from rfl]
    generalize q1.toNat * (m * 256) = A at *
    omega
  have hq0 : q0.toNat = un21.toNat / (m * 256) := by simp only [q0]; rw [UInt64.toNat_div, hy1]
  have h21l : un21.toNat < m * 256 * 4294967296 := by rw [h21]; omega
  have hq0l : q0.toNat < 4294967296 := by rw [hq0]; exact Nat.div_lt_of_lt_mul h21l
  have hqr0 : un21.toNat = q0.toNat * (m * 256) + un21.toNat % (m * 256) := by
    rw [hq0, Nat.mul_comm]
    exact (Nat.div_add_mod _ _).symm
  have hr0 : un21.toNat % (m * 256) < m * 256 := Nat.mod_lt _ (by omega)
  obtain ⟨d1, d2⟩ := KZ (K := 16777216) (L := 256) hm0 (by omega) hN hqr
  have e21 : (r * 16777216 + l.toNat % 16777216) * 256 = un21.toNat := by rw [h21]; omega
  rw [e21] at d1 d2
  refine ⟨by rw [UInt64.lt_iff_toNat_lt]; exact hq1l, by rw [UInt64.lt_iff_toNat_lt]; exact hq0l, ?_, ?_⟩
  · rw [← UInt64.toNat_inj, UInt64.toNat_add, UInt64.toNat_mul, show (4294967296 : UInt64).toNat = 4294967296 from rfl, hq0]
    unfold arF
    rw [hm, UInt64.toNat_ofNat', d1, ← hq0]
    exact acu hq1l hq0l
  · have hprod0 : q0.toNat * (m * 1099511627776) = q0.toNat * (m * 256) * 4294967296 := by
      rw [Nat.mul_assoc, Nat.mul_assoc]
    have e3 : (un21 * 4294967296 + (cA l 40 &&& 4294967295) - q0 * cA y 40).toNat = (un21.toNat % (m * 256)) * 4294967296 := by
      rw [hun0, UInt64.toNat_sub, UInt64.toNat_add, UInt64.toNat_mul, UInt64.toNat_mul, hy, hprod0, show (4294967296 : UInt64).toNat = 4294967296 from rfl, show (0 : UInt64).toNat = 0 from rfl]
      generalize un21.toNat % (m * 256) = s at *
      generalize q0.toNat * (m * 256) = A at *
      omega
    rw [← UInt64.toNat_inj, show ((40 : Int)) = ((40 : Nat) : Int) from rfl, gg _ _ (by omega), show ((40 : Nat) : Int) = 40 from rfl, e3]
    unfold Pb
    rw [hm, UInt64.toNat_ofNat', d2]
    exact aiB (by omega)
theorem QN {y : UInt64} (h : eY y = true) : ∃ m, y.toNat = m ∧ (cA y 40).toNat = m * 1099511627776 ∧ (bA (cA y 40) 32).toNat = m * 256 ∧ cA y 40 &&& 4294967295 = 0 ∧ 0 < m ∧ m < 16777216 := by
  rcases dw h with rfl | rfl
  · exact ⟨16513537, rfl, by decide +kernel, by decide +kernel, by decide +kernel, by omega, by omega⟩
  · exact ⟨16521217, rfl, by decide +kernel, by decide +kernel, by decide +kernel, by omega, by omega⟩
theorem ah4 : ac Tryz.prog 128 (fH.aH rC Lp) := TU ID PS IC PR ah6 ah5 _ _ fun x oy hp ho => by
  rw [← ho]
  clear ho
  obtain ⟨⟨h, l, y, ⟨⟩⟩, ⟨⟩⟩ := x
  have hp' : (eY y && decide (h < y)) = true := hp
  rw [Bool.and_eq_true] at hp'
  obtain ⟨hs, hlt⟩ := hp'
  have hlt := of_decide_eq_true hlt
  obtain ⟨m, f1, f2, f3, f4, f5, f6⟩ := QN hs
  have hh : h.toNat < m := by rw [← f1]; exact UInt64.lt_iff_toNat_lt.1 hlt
  have hy0 : ¬ y = 0 := fun e => by rw [e] at f1; simp at f1; omega
  have hyb : (y == 0) = false := by simpa using hy0
  have hle : decide (y ≤ h) = false := De hlt
  unfold BU
  refine (OT.aw hyb).trans ((OT.aw hle).trans ?_)
  by_cases h0 : h = 0
  · subst h0
    refine (OT.ap rfl).trans ((al ?_).trans ?_)
    · simp only [hyb, List.all_cons, List.all_nil, Bool.and_true, Bool.not_false]
    · have e1 : arF 0 l y = l / y := by
        rw [← UInt64.toNat_inj]
        unfold arF
        rw [UInt64.toNat_ofNat', UInt64.toNat_div, show (0 : UInt64).toNat = 0 from rfl, Nat.zero_mul, Nat.zero_add]
        exact Nat.mod_eq_of_lt (Nat.lt_of_le_of_lt (Nat.div_le_self _ _) l.toNat_lt)
      have e2 : Pb 0 l y = l % y := by
        rw [← UInt64.toNat_inj]
        unfold Pb
        rw [UInt64.toNat_ofNat', UInt64.toNat_mod, show (0 : UInt64).toNat = 0 from rfl, Nat.zero_mul, Nat.zero_add]
        exact Nat.mod_eq_of_lt (Nat.lt_of_le_of_lt (Nat.mod_le _ _) l.toNat_lt)
      simp only [Lp, e1, e2]
  · have hb : (h == 0) = false := by simpa using h0
    obtain ⟨w1, w2, w3, w4⟩ := PO (l := l) f1 f2 f3 f4 f5 f6 hh
    have hz : (!(bA (cA y 40) 32 == 0)) = true := by
      have : ¬ bA (cA y 40) 32 = 0 := fun e => by rw [e] at f3; simp at f3; omega
      simpa using this
    refine (OT.aw hb).trans ((al ?_).trans ?_)
    · simp only [List.all_cons, List.all_nil, Bool.and_true, Bool.and_eq_true]
      exact ⟨hs, hz, decide_eq_true ⟨f4, w1⟩, hz, decide_eq_true ⟨f4, w2⟩⟩
    · show some (⟨my, ((_, bA _ ((40 : UInt64).toNat : Int), ()), ())⟩ : fH.Y) = some ⟨my, ((arF h l y, Pb h l y, ()), ())⟩
      rw [← w3, ← w4]
      rfl
def tE : cG := (fH.aH rC Lp)
theorem PQ : ac Tryz.prog 128 tE := ah4
theorem PP : aK tE := aB
def rV : Env := aA 128 tE uc
theorem nI : aV Tryz.prog rV := ai PQ mH
theorem wY : ax rV := ae PP A8
theorem A9 : aZ Tryz.prog te rV := aN follows au nI wY
def ob : av := ⟨[.val true .elem, .val true .elem], [], true, 0, false⟩
abbrev Zk : Type := ((aa) × (aa) × Unit) × (Unit)
def B6 : Shape := ⟨29, [(2, .ptr 0 0 0), (3, .ptr 1 0 0), (4, .ptr 2 0 0), (6, .ptr 3 0 0), (7, .val false .u64), (9, .val false .int)], [(0, .row .u64), (1, .row .u64), (2, .row .u64), (3, .row .u64)], 0, true⟩
abbrev cZ : Type := ((Unit) × (Unit) × (Unit) × (Unit) × (UInt64) × (Int) × Unit) × ((List (UInt64)) × (List (UInt64)) × (List (UInt64)) × (List (UInt64)) × Unit)
def uk : Shape := ⟨29, [(4, .ptr 0 0 0), (6, .ptr 1 0 0), (7, .val false .u64)], [(0, .row .u64), (1, .row .u64)], 0, true⟩
abbrev lz : Type := ((Unit) × (Unit) × (UInt64) × Unit) × ((List (UInt64)) × (List (UInt64)) × Unit)
def acA : SE → Option Shape := jr [(0, uk)] none
def an0 (a7 : UInt64) (a9 : Int) (c0 : List (UInt64)) (c1 : List (UInt64)) (c2 : List (UInt64)) (c3 : List (UInt64)) : OT (Sum cZ aP) :=
  let z0 : Bool := inB a9 4
  let z1 : UInt64 := List.getD c0 (Int.toNat a9 + 0) (0 : UInt64)
  let z2 : UInt64 := List.getD c1 (Int.toNat a9 + 0) (0 : UInt64)
  (.br (decide (a9 < (4 : Int)))
  (gd [z0, decide (Int.toNat a9 + 0 < List.length c0), z0, decide (Int.toNat a9 + 0 < List.length c1), zh ((z1, z2, a7, ()), ()), z0, decide (Int.toNat a9 + 0 < List.length c3), inR (a9 + (1 : Int))] (.ok (.inl (((), ((), ((), ((), (uh z1 z2 a7, (a9 + (1 : Int), ())))))), (c0, (c1, (c2, (List.set c3 (Int.toNat a9 + 0) (rX z1 z2 a7), ()))))))))
  (.ok (.inr ⟨(.exit 0, uk), (((), ((), (a7, ()))), (c2, (c3, ())))⟩)))
def B7 (s : cZ) : OT (Sum cZ aP) := an0 (s.1.2.2.2.2.1) (s.1.2.2.2.2.2.1) (s.2.1) (s.2.2.1) (s.2.2.2.1) (s.2.2.2.2.1)
theorem anX (s : cZ) (Q : Sum cZ aP → Prop) : wps te rV ay 1000 (bF (ao Tryz.f119) 0) (B6.inj s) (cQ B6 acA (Q : Sum B6.T aP → Prop)) = (B7 s).wpR Q := by kernel_rfl
def I6 (g0_0 : cZ → lz) (s : cZ) : OT aP := (.ok ⟨(.exit 0, uk), g0_0 s⟩)
def QC : az := ⟨[.val true .elem, .val false .bool], [], false⟩
def UC : SV → Option az := fun _ => some QC
def acD (ok0 : cZ → Bool) (g0_0 : cZ → lz) (a0 : aa) (a1 : aa) : OT ob.Y :=
  let z0 : (PUnit × PUnit × PUnit × PUnit × UInt64 × Int × PUnit) × List UInt64 × List UInt64 × List UInt64 × List UInt64 × PUnit := (((), (), (), (), (0 : UInt64), (0 : Int), ()), [a0.w0, a0.w1, a0.w2, a0.w3], [a1.w0, a1.w1, a1.w2, a1.w3], [(0 : UInt64), (0 : UInt64), (0 : UInt64), (0 : UInt64)], [(0 : UInt64), (0 : UInt64), (0 : UInt64), (0 : UInt64)], ())
  let z1 : (PUnit × PUnit × UInt64 × PUnit) × List UInt64 × List UInt64 × PUnit := g0_0 z0
  let z2 := z1.snd
  let z3 := z2.snd.fst
  let z4 := z2.fst
  let z5 : List UInt64 := lay z4 z3 4 (0 : UInt64)
  (gd [ok0 z0, decide (4 ≤ List.length z3), decide ((4 / 1 : Nat) + 0 ≤ List.length z4), decide (4 ≤ List.length z5)] (.ok ⟨QC, (({ w0 := List.getD z5 0 0, w1 := List.getD z5 1 0, w2 := List.getD z5 2 0, w3 := List.getD z5 3 0 }, (!z1.fst.snd.snd.fst == (0 : UInt64), ())), ())⟩))
theorem arN (ok0 : cZ → Bool) (g0_0 : cZ → lz) (x : Zk) (Q : ob.Y → Prop) : wpf te rV (bg 0 (di B6 0 ok0 (I6 g0_0)) ay) 1000 Tryz.f119 (ob.inp.inj x).tm (ob.inp.inj x).hp (fnK ob UC Q) (fun _ _ => False) = (acD ok0 g0_0 (x.1.1) (x.1.2.1)).wpR Q := by kernel_rfl
theorem acB (ok0 : cZ → Bool) (g0_0 : cZ → lz) (h0 : ∀ s : cZ, ok0 s = true → ∃ m e, aq (B7) m s = some e ∧ (I6 g0_0 s).run = some e) (pre : Zk → Bool) (F : Zk → OT ob.Y) (hF : ∀ (x : Zk) oy, pre x = true → (F x).run = some oy → (acD ok0 g0_0 (x.1.1) (x.1.2.1)).run = some oy) : ac Tryz.prog 119 (ob.aH pre F) :=
  aC au nI A9 (f := 119) (fn := Tryz.f119) (c := ao Tryz.f119) (by kernel_rfl) (by kernel_rfl) (by kernel_rfl) (S := ob) (k := 0) (by kernel_rfl) (fun R hR => (aF (c := (ao Tryz.f119)) (by kernel_rfl) (id := 0) (by kernel_rfl) (bt au nI A9 (sh := B6) hR (xs := acA) (aG (by kernel_rfl) (by kernel_rfl) hR) aW af (n := 1000) (T := B7) (fun s Q => anX s Q) (ok := ok0) (f := I6 g0_0) h0) af)) (n := 1000) (sel := UC) (fun v o h => by cases h; rfl) (pre := pre) (F := F) (T := fun x => acD ok0 g0_0 (x.1.1) (x.1.2.1)) (fun x Q => arN ok0 g0_0 x Q) hF
def GB (a b : List UInt64) (k : Nat) (s : List UInt64 × UInt64) : List UInt64 × UInt64 := (s.1.set k (rX (a.getD k 0) (b.getD k 0) s.2), uh (a.getD k 0) (b.getD k 0) s.2)
def UE (s : cZ) : Bool := decide (s.1.2.2.2.2.1 = 0 ∧ s.1.2.2.2.2.2.1 = 0 ∧ s.2.1.length = 4 ∧ s.2.2.1.length = 4 ∧ s.2.2.2.2.1 = [0, 0, 0, 0])
def acC (s : cZ) : lz := (((), (), (upto (GB s.2.1 s.2.2.1) ([0, 0, 0, 0], 0) 4).2, ()), (s.2.2.2.1, (upto (GB s.2.1 s.2.2.1) ([0, 0, 0, 0], 0) 4).1, ()))
theorem anZ : ∀ s : cZ, UE s = true → ∃ m e, aq B7 m s = some e ∧ (I6 acC s).run = some e := by
  rintro ⟨⟨⟨⟩, ⟨⟩, ⟨⟩, ⟨⟩, c, i, ⟨⟩⟩, ⟨c0, c1, c2, c3, ⟨⟩⟩⟩ h
  have h' := of_decide_eq_true h
  dsimp only at h'
  obtain ⟨rfl, rfl, h0, h1, rfl⟩ := h'
  have := (bP (T := B7) (fun k s => ((((), (), (), (), s.2, (k : Int), ()), (c0, c1, c2, s.1, ())) : cZ)) (GB c0 c1)
    (fun s => (⟨(.exit 0, uk), (((), (), s.2, ()), (c2, s.1, ()))⟩ : aP)) 4 ([0, 0, 0, 0], 0) (fun _ s => s.1.length = 4 ∧ s.2.toNat ≤ 1) ⟨rfl, by decide⟩ (fun k s hk hs => ⟨?_, ?_⟩) (fun s hs => ?_)).1
  · obtain ⟨m, hm⟩ := this
    exact ⟨m, _, hm, rfl⟩
  · refine (OT.ap (decide_eq_true (by dsimp only; omega))).trans ((al ?_).trans ?_)
    · simp only [Int.toNat_natCast, Nat.add_zero, h0, h1, hs.1, List.all_cons, List.all_nil, Bool.and_true, Bool.and_eq_true]
      exact ⟨bD (by omega), decide_eq_true (by omega), bD (by omega), decide_eq_true (by omega), decide_eq_true hs.2, bD (by omega), decide_eq_true (by omega), bE (by omega)⟩
    · simp only [OT.jG, Int.toNat_natCast, Nat.add_zero]
      rfl
  · exact ⟨by simp only [GB, List.length_set]; exact hs.1, zk hs.2⟩
  · exact OT.aw (decide_eq_false (by dsimp only; omega))
theorem arv (x y : List UInt64) (hx : x.length = 4) (hy : y.length = 4) : lay x y 4 0 = y := agl hx hy
def UD (_ : Zk) : Bool := true
def acE (x : Zk) : OT ob.Y := .ok ⟨QC, (((ui x.1.1 x.1.2.1).1, ((ui x.1.1 x.1.2.1).2, ())), ())⟩
theorem anY : ac Tryz.prog 119 (ob.aH UD acE) := acB UE acC anZ _ _ fun x oy hp ho => by
  rw [← ho]
  clear ho
  obtain ⟨⟨a, b, ⟨⟩⟩, ⟨⟩⟩ := x
  obtain ⟨_, hw⟩ := GD a b
  refine (al ?_).trans ?_
  · simp only [List.all_cons, List.all_nil, Bool.and_true, Bool.and_eq_true]
    exact ⟨rfl, rfl, rfl, rfl⟩
  · simp only [acE, hw]
    rfl
def B5 : cG := (ob.aH UD acE)
theorem Zj : ac Tryz.prog 119 B5 := anY
theorem Zi : aK B5 := aB
def II : Env := aA 119 B5 rV
theorem vY : aV Tryz.prog II := ai Zj nI
theorem E6 : ax II := ae Zi wY
theorem IH : aZ Tryz.prog te II := aN follows au vY E6
def n8 : av := ⟨[.val true .elem, .val true .elem], [], true, 0, false⟩
abbrev Zc : Type := ((aa) × (aa) × Unit) × (Unit)
def B0 : Shape := ⟨29, [(2, .ptr 0 0 0), (3, .ptr 1 0 0), (4, .ptr 2 0 0), (6, .ptr 3 0 0), (7, .val false .u64), (9, .val false .int)], [(0, .row .u64), (1, .row .u64), (2, .row .u64), (3, .row .u64)], 0, true⟩
abbrev cY : Type := ((Unit) × (Unit) × (Unit) × (Unit) × (UInt64) × (Int) × Unit) × ((List (UInt64)) × (List (UInt64)) × (List (UInt64)) × (List (UInt64)) × Unit)
def uj : Shape := ⟨29, [(4, .ptr 0 0 0), (6, .ptr 1 0 0), (7, .val false .u64)], [(0, .row .u64), (1, .row .u64)], 0, true⟩
abbrev ly : Type := ((Unit) × (Unit) × (UInt64) × Unit) × ((List (UInt64)) × (List (UInt64)) × Unit)
def acm : SE → Option Shape := jr [(0, uj)] none
def anU (a7 : UInt64) (a9 : Int) (c0 : List (UInt64)) (c1 : List (UInt64)) (c2 : List (UInt64)) (c3 : List (UInt64)) : OT (Sum cY aP) :=
  let z0 : Bool := inB a9 4
  let z1 : UInt64 := List.getD c0 (Int.toNat a9 + 0) (0 : UInt64)
  let z2 : UInt64 := List.getD c1 (Int.toNat a9 + 0) (0 : UInt64)
  (.br (decide (a9 < (4 : Int)))
  (gd [z0, decide (Int.toNat a9 + 0 < List.length c0), z0, decide (Int.toNat a9 + 0 < List.length c1), y9 ((z1, z2, a7, ()), ()), z0, decide (Int.toNat a9 + 0 < List.length c3), inR (a9 + (1 : Int))] (.ok (.inl (((), ((), ((), ((), (LW z1 z2 a7, (a9 + (1 : Int), ())))))), (c0, (c1, (c2, (List.set c3 (Int.toNat a9 + 0) (mN z1 z2 a7), ()))))))))
  (.ok (.inr ⟨(.exit 0, uj), (((), ((), (a7, ()))), (c2, (c3, ())))⟩)))
def B1 (s : cY) : OT (Sum cY aP) := anU (s.1.2.2.2.2.1) (s.1.2.2.2.2.2.1) (s.2.1) (s.2.2.1) (s.2.2.2.1) (s.2.2.2.2.1)
theorem anR (s : cY) (Q : Sum cY aP → Prop) : wps te II ay 1000 (bF (ao Tryz.f125) 0) (B0.inj s) (cQ B0 acm (Q : Sum B0.T aP → Prop)) = (B1 s).wpR Q := by kernel_rfl
def I4 (g0_0 : cY → ly) (s : cY) : OT aP := (.ok ⟨(.exit 0, uj), g0_0 s⟩)
def Qy : az := ⟨[.val true .elem, .val false .bool], [], false⟩
def Ut : SV → Option az := fun _ => some Qy
def acp (ok0 : cY → Bool) (g0_0 : cY → ly) (a0 : aa) (a1 : aa) : OT n8.Y :=
  let z0 : (PUnit × PUnit × PUnit × PUnit × UInt64 × Int × PUnit) × List UInt64 × List UInt64 × List UInt64 × List UInt64 × PUnit := (((), (), (), (), (0 : UInt64), (0 : Int), ()), [a0.w0, a0.w1, a0.w2, a0.w3], [a1.w0, a1.w1, a1.w2, a1.w3], [(0 : UInt64), (0 : UInt64), (0 : UInt64), (0 : UInt64)], [(0 : UInt64), (0 : UInt64), (0 : UInt64), (0 : UInt64)], ())
  let z1 : (PUnit × PUnit × UInt64 × PUnit) × List UInt64 × List UInt64 × PUnit := g0_0 z0
  let z2 := z1.snd
  let z3 := z2.snd.fst
  let z4 := z2.fst
  let z5 : List UInt64 := lay z4 z3 4 (0 : UInt64)
  (gd [ok0 z0, decide (4 ≤ List.length z3), decide ((4 / 1 : Nat) + 0 ≤ List.length z4), decide (4 ≤ List.length z5)] (.ok ⟨Qy, (({ w0 := List.getD z5 0 0, w1 := List.getD z5 1 0, w2 := List.getD z5 2 0, w3 := List.getD z5 3 0 }, (!z1.fst.snd.snd.fst == (0 : UInt64), ())), ())⟩))
theorem arK (ok0 : cY → Bool) (g0_0 : cY → ly) (x : Zc) (Q : n8.Y → Prop) : wpf te II (bg 0 (di B0 0 ok0 (I4 g0_0)) ay) 1000 Tryz.f125 (n8.inp.inj x).tm (n8.inp.inj x).hp (fnK n8 Ut Q) (fun _ _ => False) = (acp ok0 g0_0 (x.1.1) (x.1.2.1)).wpR Q := by kernel_rfl
theorem acn (ok0 : cY → Bool) (g0_0 : cY → ly) (h0 : ∀ s : cY, ok0 s = true → ∃ m e, aq (B1) m s = some e ∧ (I4 g0_0 s).run = some e) (pre : Zc → Bool) (F : Zc → OT n8.Y) (hF : ∀ (x : Zc) oy, pre x = true → (F x).run = some oy → (acp ok0 g0_0 (x.1.1) (x.1.2.1)).run = some oy) : ac Tryz.prog 125 (n8.aH pre F) :=
  aC au vY IH (f := 125) (fn := Tryz.f125) (c := ao Tryz.f125) (by kernel_rfl) (by kernel_rfl) (by kernel_rfl) (S := n8) (k := 0) (by kernel_rfl) (fun R hR => (aF (c := (ao Tryz.f125)) (by kernel_rfl) (id := 0) (by kernel_rfl) (bt au vY IH (sh := B0) hR (xs := acm) (aG (by kernel_rfl) (by kernel_rfl) hR) aW af (n := 1000) (T := B1) (fun s Q => anR s Q) (ok := ok0) (f := I4 g0_0) h0) af)) (n := 1000) (sel := Ut) (fun v o h => by cases h; rfl) (pre := pre) (F := F) (T := fun x => acp ok0 g0_0 (x.1.1) (x.1.2.1)) (fun x Q => arK ok0 g0_0 x Q) hF
def Ge (a b : List UInt64) (k : Nat) (s : List UInt64 × UInt64) : List UInt64 × UInt64 := (s.1.set k (mN (a.getD k 0) (b.getD k 0) s.2), LW (a.getD k 0) (b.getD k 0) s.2)
def Uv (s : cY) : Bool := decide (s.1.2.2.2.2.1 = 0 ∧ s.1.2.2.2.2.2.1 = 0 ∧ s.2.1.length = 4 ∧ s.2.2.1.length = 4 ∧ s.2.2.2.2.1 = [0, 0, 0, 0])
def aco (s : cY) : ly := (((), (), (upto (Ge s.2.1 s.2.2.1) ([0, 0, 0, 0], 0) 4).2, ()), (s.2.2.2.1, (upto (Ge s.2.1 s.2.2.1) ([0, 0, 0, 0], 0) 4).1, ()))
theorem anT : ∀ s : cY, Uv s = true → ∃ m e, aq B1 m s = some e ∧ (I4 aco s).run = some e := by
  rintro ⟨⟨⟨⟩, ⟨⟩, ⟨⟩, ⟨⟩, c, i, ⟨⟩⟩, ⟨c0, c1, c2, c3, ⟨⟩⟩⟩ h
  have h' := of_decide_eq_true h
  dsimp only at h'
  obtain ⟨rfl, rfl, h0, h1, rfl⟩ := h'
  have := (bP (T := B1) (fun k s => ((((), (), (), (), s.2, (k : Int), ()), (c0, c1, c2, s.1, ())) : cY)) (Ge c0 c1)
    (fun s => (⟨(.exit 0, uj), (((), (), s.2, ()), (c2, s.1, ()))⟩ : aP)) 4 ([0, 0, 0, 0], 0) (fun _ s => s.1.length = 4 ∧ s.2.toNat ≤ 1) ⟨rfl, by decide⟩ (fun k s hk hs => ⟨?_, ?_⟩) (fun s hs => ?_)).1
  · obtain ⟨m, hm⟩ := this
    exact ⟨m, _, hm, rfl⟩
  · refine (OT.ap (decide_eq_true (by dsimp only; omega))).trans ((al ?_).trans ?_)
    · simp only [Int.toNat_natCast, Nat.add_zero, h0, h1, hs.1, List.all_cons, List.all_nil, Bool.and_true, Bool.and_eq_true]
      exact ⟨bD (by omega), decide_eq_true (by omega), bD (by omega), decide_eq_true (by omega), decide_eq_true hs.2, bD (by omega), decide_eq_true (by omega), bE (by omega)⟩
    · simp only [OT.jG, Int.toNat_natCast, Nat.add_zero]
      rfl
  · exact ⟨by simp only [Ge, List.length_set]; exact hs.1, xk⟩
  · exact OT.aw (decide_eq_false (by dsimp only; omega))
def Uu (_ : Zc) : Bool := true
def acq (x : Zc) : OT n8.Y := .ok ⟨Qy, (((lk x.1.1 x.1.2.1).1, ((lk x.1.1 x.1.2.1).2, ())), ())⟩
theorem anS : ac Tryz.prog 125 (n8.aH Uu acq) := acn Uv aco anT _ _ fun x oy hp ho => by
  rw [← ho]
  clear ho
  obtain ⟨⟨a, b, ⟨⟩⟩, ⟨⟩⟩ := x
  obtain ⟨_, hw⟩ := GG a b
  refine (al ?_).trans ?_
  · simp only [List.all_cons, List.all_nil, Bool.and_true, Bool.and_eq_true]
    exact ⟨rfl, rfl, rfl, rfl⟩
  · simp only [acq, hw]
    rfl
def BZ : cG := (n8.aH Uu acq)
theorem Zb : ac Tryz.prog 125 BZ := anS
theorem Za : aK BZ := aB
def P4 : Env := aA 125 BZ II
theorem EZ : aV Tryz.prog P4 := ai Zb vY
theorem E1 : ax P4 := ae Za E6
theorem ab5 : aZ Tryz.prog te P4 := aN follows au EZ E1
def jz : av := ⟨[.val true .elem, .val true .elem], [], true, 0, false⟩
abbrev GF : Type := ((aa) × (aa) × Unit) × (Unit)
def I5 : az := ⟨[.val false .bool], [], false⟩
def L3 : SV → Option az := fun _ => some I5
def QB (a0 : aa) (a1 : aa) : OT jz.Y :=
  (.ok ⟨I5, (((lk a0 a1).snd, ()), ())⟩)
theorem anV (x : GF) (Q : jz.Y → Prop) : wpf te P4 ay 1000 Tryz.f86 (jz.inp.inj x).tm (jz.inp.inj x).hp (fnK jz L3 Q) (fun _ _ => False) = (QB (x.1.1) (x.1.2.1)).wpR Q := by kernel_rfl
theorem Zd (pre : GF → Bool) (F : GF → OT jz.Y) (hF : ∀ (x : GF) oy, pre x = true → (F x).run = some oy → (QB (x.1.1) (x.1.2.1)).run = some oy) : ac Tryz.prog 86 (jz.aH pre F) :=
  aC au EZ ab5 (f := 86) (fn := Tryz.f86) (c := ao Tryz.f86) (by kernel_rfl) (by kernel_rfl) (by kernel_rfl) (S := jz) (k := 0) (by kernel_rfl) (fun R hR => af) (n := 1000) (sel := L3) (fun v o h => by cases h; rfl) (pre := pre) (F := F) (T := fun x => QB (x.1.1) (x.1.2.1)) (fun x Q => anV x Q) hF
def L4 (_ : GF) : Bool := true
def acv (x : GF) : OT jz.Y := .ok ⟨I5, ((Nat.blt x.1.1.nat x.1.2.1.nat, ()), ())⟩
theorem aiD : ac Tryz.prog 86 (jz.aH L4 acv) := Zd _ _ fun x oy _ ho => ho
def xe : cG := (jz.aH L4 acv)
theorem QA : ac Tryz.prog 86 xe := aiD
theorem Qz : aK xe := aB
def E3 : Env := aA 86 xe P4
theorem zl : aV Tryz.prog E3 := ai QA EZ
theorem As : ax E3 := ae Qz E1
theorem T4 : aZ Tryz.prog te E3 := aN follows au zl As
def nJ : av := ⟨[.val true .elem, .val false .int], [], true, 0, false⟩
abbrev Zg : Type := ((aa) × (Int) × Unit) × (Unit)
def xf : az := ⟨[.val false .bool], [], false⟩
def Uz : SV → Option az := fun _ => some xf
def acz (a0 : aa) (a1 : Int) : OT nJ.Y :=
  let z0 : Int := Int.tdiv a1 (64 : Int)
  let z1 : Int := Int.tmod a1 (64 : Int)
  (.br (decide ((0 : Int) ≤ a1))
  (.br (decide (a1 < (256 : Int)))
    (gd [true && inR z0, inB z0 4, decide (Int.toNat z0 + 0 < 4), decide ((0 : Int) ≤ z1)] (.ok ⟨xf, ((bA (List.getD [a0.w0, a0.w1, a0.w2, a0.w3] (Int.toNat z0 + 0) (0 : UInt64)) z1 &&& (1 : UInt64) == (1 : UInt64), ()), ())⟩))
    (.ok ⟨xf, ((false, ()), ())⟩))
  (.ok ⟨xf, ((false, ()), ())⟩))
theorem arM (x : Zg) (Q : nJ.Y → Prop) : wpf te E3 ay 1000 Tryz.f84 (nJ.inp.inj x).tm (nJ.inp.inj x).hp (fnK nJ Uz Q) (fun _ _ => False) = (acz (x.1.1) (x.1.2.1)).wpR Q := by kernel_rfl
theorem acy (pre : Zg → Bool) (F : Zg → OT nJ.Y) (hF : ∀ (x : Zg) oy, pre x = true → (F x).run = some oy → (acz (x.1.1) (x.1.2.1)).run = some oy) : ac Tryz.prog 84 (nJ.aH pre F) :=
  aC au zl T4 (f := 84) (fn := Tryz.f84) (c := ao Tryz.f84) (by kernel_rfl) (by kernel_rfl) (by kernel_rfl) (S := nJ) (k := 0) (by kernel_rfl) (fun R hR => af) (n := 1000) (sel := Uz) (fun v o h => by cases h; rfl) (pre := pre) (F := F) (T := fun x => acz (x.1.1) (x.1.2.1)) (fun x Q => arM x Q) hF
def nZ (a : aa) (i : Int) : Bool := cond (decide (0 ≤ i)) (cond (decide (i < 256)) (Bq a.nat i.toNat) false) false
def UA (_ : Zg) : Bool := true
def amX (x : Zg) : OT nJ.Y := .ok ⟨xf, ((nZ x.1.1 x.1.2.1, ()), ())⟩
theorem ah1 {a : aa} {i : Int} (h1 : 0 ≤ i) (h2 : i < 256) : (bA (List.getD [a.w0, a.w1, a.w2, a.w3] (Int.toNat (Int.tdiv i 64) + 0) 0) (Int.tmod i 64) &&& 1 == 1) = nZ a i := by
  obtain ⟨n, rfl⟩ : ∃ n : Nat, i = (n : Int) := ⟨i.toNat, by omega⟩
  have hn : n < 256 := by omega
  have t1 : Int.tdiv (n : Int) 64 = ((n / 64 : Nat) : Int) := by rw [Int.tdiv_eq_ediv_of_nonneg (by omega)]; omega
  have t2 : Int.tmod (n : Int) 64 = ((n % 64 : Nat) : Int) := by rw [Int.tmod_eq_emod_of_nonneg (by omega)]; omega
  rw [t1, t2, TQ, gg _ _ (by omega), Int.toNat_natCast, Nat.add_zero]
  have := YZ (a := a) (q := n / 64) (r := n % 64) (by omega) (by omega)
  rw [show 64 * (n / 64) + n % 64 = n by omega] at this
  unfold nZ Bq
  rw [decide_eq_true h1, decide_eq_true h2, Int.toNat_natCast]
  simp only [cond_true]
  rw [← this]
  rfl
theorem anW : ac Tryz.prog 84 (nJ.aH UA amX) := acy _ _ fun x oy _ ho => by
  rw [← ho]
  clear ho
  obtain ⟨⟨a, i, ⟨⟩⟩, ⟨⟩⟩ := x
  show _ = (OT.ok ⟨xf, ((nZ a i, ()), ())⟩ : OT nJ.Y).run
  by_cases h1 : 0 ≤ i
  · refine (OT.ap (decide_eq_true h1)).trans ?_
    by_cases h2 : i < 256
    · refine (OT.ap (decide_eq_true h2)).trans ((al ?_).trans ?_)
      · obtain ⟨n, rfl⟩ : ∃ n : Nat, i = (n : Int) := ⟨i.toNat, by omega⟩
        have t1 : Int.tdiv (n : Int) 64 = ((n / 64 : Nat) : Int) := by rw [Int.tdiv_eq_ediv_of_nonneg (by omega)]; omega
        have t2 : Int.tmod (n : Int) 64 = ((n % 64 : Nat) : Int) := by rw [Int.tmod_eq_emod_of_nonneg (by omega)]; omega
        simp only [t1, t2, Int.toNat_natCast, Nat.add_zero, List.all_cons, List.all_nil, Bool.and_true, Bool.and_eq_true, Bool.true_and]
        exact ⟨bE (by omega), bD (by omega), decide_eq_true (by omega), decide_eq_true (by omega)⟩
      · simp only [ah1 h1 h2]
    · have e : nZ a i = false := by unfold nZ; rw [decide_eq_true h1, decide_eq_false h2]; rfl
      rw [e]
      exact OT.aw (decide_eq_false h2)
  · have e : nZ a i = false := by unfold nZ; rw [decide_eq_false h1]; rfl
    rw [e]
    exact OT.aw (decide_eq_false h1)
def B3 : cG := (nJ.aH UA amX)
theorem Zf : ac Tryz.prog 84 B3 := anW
theorem Ze : aK B3 := aB
def P5 : Env := aA 84 B3 E3
theorem E4 : aV Tryz.prog P5 := ai Zf zl
theorem E5 : ax P5 := ae Ze As
theorem ab6 : aZ Tryz.prog te P5 := aN follows au E4 E5
def Eb : av := ⟨[.val false .int], [], true, 0, false⟩
abbrev arB : Type := ((Int) × Unit) × (Unit)
def An : az := ⟨[.val true (.prod .elem (.prod .int (.prod .u64 (.prod .u64 .elem)))), .val false .int], [], false⟩
def agQ : SV → Option az := fun _ => some An
def aqC (a0 : Int) : OT Eb.Y :=
  let z0 : aa := { w0 := 0, w1 := 0, w2 := 0, w3 := 0 }
  let z1 : UInt64 × aa := ((0 : UInt64), z0)
  (.br (a0 == (0 : Int))
  (.ok ⟨An, ((({ w0 := 16513537, w1 := 0, w2 := 0, w3 := 0 }, (9 : Int), (16513537 : UInt64), z1), ((0 : Int), ())), ())⟩)
  (.br (a0 == (1 : Int))
    (.ok ⟨An, ((({ w0 := 16521217, w1 := 0, w2 := 0, w3 := 0 }, (11 : Int), (16521217 : UInt64), z1), ((0 : Int), ())), ())⟩)
    (.br (a0 == (2 : Int))
      (.ok ⟨An, ((({ w0 := 11037532056220336129, w1 := 2469829653914515739, w2 := 0, w3 := 4611686018427387904 }, (32 : Int), (0 : UInt64), (11037532056220336127 : UInt64), { w0 := 10122100416058490895, w1 := 15551789045973377255, w2 := 8617542898466512152, w3 := 679271340751763220 }), ((0 : Int), ())), ())⟩)
      (.br (a0 == (3 : Int))
        (.ok ⟨An, ((({ w0 := 10108024940646105089, w1 := 2469829653919213789, w2 := 0, w3 := 4611686018427387904 }, (32 : Int), (0 : UInt64), (10108024940646105087 : UInt64), { w0 := 18200867980676431887, w1 := 7474641938123724515, w2 := 9200329640471491984, w3 := 679271340771891881 }), ((0 : Int), ())), ())⟩)
        (.ok ⟨An, (((z0, (0 : Int), (0 : UInt64), z1), ((20 : Int), ())), ())⟩)))))
theorem at0 (x : arB) (Q : Eb.Y → Prop) : wpf te P5 ay 1000 Tryz.f76 (Eb.inp.inj x).tm (Eb.inp.inj x).hp (fnK Eb agQ Q) (fun _ _ => False) = (aqC (x.1.1)).wpR Q := by kernel_rfl
theorem amg (pre : arB → Bool) (F : arB → OT Eb.Y) (hF : ∀ (x : arB) oy, pre x = true → (F x).run = some oy → (aqC (x.1.1)).run = some oy) : ac Tryz.prog 76 (Eb.aH pre F) :=
  aC au E4 ab6 (f := 76) (fn := Tryz.f76) (c := ao Tryz.f76) (by kernel_rfl) (by kernel_rfl) (by kernel_rfl) (S := Eb) (k := 0) (by kernel_rfl) (fun R hR => af) (n := 1000) (sel := agQ) (fun v o h => by cases h; rfl) (pre := pre) (F := F) (T := fun x => aqC (x.1.1)) (fun x Q => at0 x Q) hF
abbrev LZ : Type := aa × Int × UInt64 × UInt64 × aa
def asu : LZ := (⟨0, 0, 0, 0⟩, 0, 0, 0, ⟨0, 0, 0, 0⟩)
def bT : Nat → LZ
  | 0 => (⟨16513537, 0, 0, 0⟩, 9, 16513537, 0, ⟨0, 0, 0, 0⟩)
  | 1 => (⟨16521217, 0, 0, 0⟩, 11, 16521217, 0, ⟨0, 0, 0, 0⟩)
  | 2 => (⟨11037532056220336129, 2469829653914515739, 0, 4611686018427387904⟩, 32, 0, 11037532056220336127, ⟨10122100416058490895, 15551789045973377255, 8617542898466512152, 679271340751763220⟩)
  | 3 => (⟨10108024940646105089, 2469829653919213789, 0, 4611686018427387904⟩, 32, 0, 10108024940646105087, ⟨18200867980676431887, 7474641938123724515, 9200329640471491984, 679271340771891881⟩)
  | _ => asu
def ak (s : Int) : Bool := decide (0 ≤ s) && decide (s < 4)
theorem cr {s : Int} (h : ak s = true) : s = 0 ∨ s = 1 ∨ s = 2 ∨ s = 3 := by
  simp only [ak, Bool.and_eq_true, decide_eq_true_eq] at h
  omega
theorem qj {s : Int} (h : ak s = false) : (s == 0) = false ∧ (s == 1) = false ∧ (s == 2) = false ∧ (s == 3) = false := by
  have hn : ∀ k : Int, 0 ≤ k → k < 4 → (s == k) = false := fun k h0 h1 => by
    cases hb : s == k
    · rfl
    · have : s = k := by simpa using hb
      subst this
      simp only [ak, decide_eq_true h0, decide_eq_true h1, Bool.and_self] at h
      cases h
  exact ⟨hn 0 (by decide) (by decide), hn 1 (by decide) (by decide), hn 2 (by decide) (by decide), hn 3 (by decide) (by decide)⟩
def agR (_ : arB) : Bool := true
def asW (x : arB) : OT Eb.Y := .br (ak x.1.1) (.ok ⟨An, ((bT x.1.1.toNat, ((0 : Int), ())), ())⟩) (.ok ⟨An, ((asu, ((20 : Int), ())), ())⟩)
theorem asV : ac Tryz.prog 76 (Eb.aH agR asW) := amg _ _ fun x oy _ ho => by
  rw [← ho]
  clear ho
  obtain ⟨⟨s, ⟨⟩⟩, ⟨⟩⟩ := x
  cases hs : ak s
  · obtain ⟨h0, h1, h2, h3⟩ := qj hs
    exact (OT.aw h0).trans ((OT.aw h1).trans ((OT.aw h2).trans ((OT.aw h3).trans (OT.aw (b := ak s) hs).symm)))
  · rcases cr hs with h | h | h | h
    all_goals
      have h : s = _ := h
      subst h
      rfl
theorem Jc (c : Int) : ak c = (!decide (c < 0) && !decide (3 < c)) := by
  rw [Bool.eq_iff_iff]
  simp only [ak, Bool.and_eq_true, decide_eq_true_eq, Bool.not_eq_true', decide_eq_false_iff_not]
  omega
def KM : cG := (Eb.aH agR asW)
theorem agS : ac Tryz.prog 76 KM := asV
theorem agP : aK KM := aB
def aiu : Env := aA 76 KM P5
theorem LO : aV Tryz.prog aiu := ai agS E4
theorem IV : ax aiu := ae agP E5
theorem ait : aZ Tryz.prog te aiu := aN follows au LO IV
def po : av := ⟨[.val false .int], [], true, 0, false⟩
abbrev abc : Type := ((Int) × Unit) × (Unit)
def Ej : az := ⟨[.val true .elem, .val false .int], [], false⟩
def Yk : SV → Option az := fun _ => some Ej
def ag0 (a0 : Int) : OT po.Y :=
  (.br (ak a0)
  (.ok ⟨Ej, (((bT (Int.toNat a0)).fst, ((0 : Int), ())), ())⟩)
  (.ok ⟨Ej, (({ w0 := 0, w1 := 0, w2 := 0, w3 := 0 }, ((20 : Int), ())), ())⟩))
theorem as0 (x : abc) (Q : po.Y → Prop) : wpf te aiu ay 1000 Tryz.f66 (po.inp.inj x).tm (po.inp.inj x).hp (fnK po Yk Q) (fun _ _ => False) = (ag0 (x.1.1)).wpR Q := by kernel_rfl
theorem agZ (pre : abc → Bool) (F : abc → OT po.Y) (hF : ∀ (x : abc) oy, pre x = true → (F x).run = some oy → (ag0 (x.1.1)).run = some oy) : ac Tryz.prog 66 (po.aH pre F) :=
  aC au LO ait (f := 66) (fn := Tryz.f66) (c := ao Tryz.f66) (by kernel_rfl) (by kernel_rfl) (by kernel_rfl) (S := po) (k := 0) (by kernel_rfl) (fun R hR => af) (n := 1000) (sel := Yk) (fun v o h => by cases h; rfl) (pre := pre) (F := F) (T := fun x => ag0 (x.1.1)) (fun x Q => as0 x Q) hF
def Yl (_ : abc) : Bool := true
def anE (x : abc) : OT po.Y := .br (ak x.1.1) (.ok ⟨Ej, (((bT x.1.1.toNat).1, ((0 : Int), ())), ())⟩) (.ok ⟨Ej, ((⟨0, 0, 0, 0⟩, ((20 : Int), ())), ())⟩)
theorem aqH : ac Tryz.prog 66 (po.aH Yl anE) := agZ _ _ fun x oy _ ho => ho
def Ei : cG := (po.aH Yl anE)
theorem abb : ac Tryz.prog 66 Ei := aqH
theorem aba : aK Ei := aB
def FO : Env := aA 66 Ei aiu
theorem qc : aV Tryz.prog FO := ai abb LO
theorem FN : ax FO := ae aba IV
theorem zL : aZ Tryz.prog te FO := aN follows au qc FN
def mj : av := ⟨[.val true (.prod .elem (.prod .int (.prod .u64 (.prod .u64 .elem)))), .val true .elem], [], true, 0, false⟩
abbrev aa1 : Type := (((aa × (Int × (UInt64 × (UInt64 × aa))))) × (aa) × Unit) × (Unit)
def D5 : Shape := ⟨53, [(2, .ptr 0 0 0), (3, .ptr 1 0 0), (4, .ptr 2 0 0), (5, .val false .u64), (6, .val false .int)], [(0, .cells [.val false .u64, .val false .u64, .val false .u64, .val false .u64, .val false .int, .val false .u64, .val false .u64, .val false .u64, .val false .u64, .val false .u64, .val false .u64]), (1, .row .u64), (2, .row .u64)], 0, true⟩
abbrev db : Type := ((Unit) × (Unit) × (Unit) × (UInt64) × (Int) × Unit) × (((UInt64) × (UInt64) × (UInt64) × (UInt64) × (Int) × (UInt64) × (UInt64) × (UInt64) × (UInt64) × (UInt64) × (UInt64) × Unit) × (List (UInt64)) × (List (UInt64)) × Unit)
def vA : Shape := ⟨53, [(4, .ptr 0 0 0), (5, .val false .u64)], [(0, .row .u64)], 0, true⟩
abbrev mi : Type := ((Unit) × (UInt64) × Unit) × ((List (UInt64)) × Unit)
def agN : SE → Option Shape := jr [(0, vA)] none
def aqA (a5 : UInt64) (a6 : Int) (c0_0 : UInt64) (c0_1 : UInt64) (c0_2 : UInt64) (c0_3 : UInt64) (c0_4 : Int) (c0_5 : UInt64) (c0_6 : UInt64) (c0_7 : UInt64) (c0_8 : UInt64) (c0_9 : UInt64) (c0_10 : UInt64) (c1 : List (UInt64)) (c2 : List (UInt64)) : OT (Sum db aP) :=
  let z0 : UInt64 := List.getD c1 (Int.toNat a6 + 0) (0 : UInt64)
  (.br (decide ((0 : Int) ≤ a6))
  (gd [inB a6 4, decide (Int.toNat a6 + 0 < List.length c1), rC ((a5, z0, c0_5, ()), ()), inR (a6 - (1 : Int))] (.ok (.inl (((), ((), ((), (Pb a5 z0 c0_5, (a6 - (1 : Int), ()))))), ((c0_0, (c0_1, (c0_2, (c0_3, (c0_4, (c0_5, (c0_6, (c0_7, (c0_8, (c0_9, (c0_10, ()))))))))))), (c1, (c2, ())))))))
  (.ok (.inr ⟨(.exit 0, vA), (((), (a5, ())), (c2, ()))⟩)))
def D8 (s : db) : OT (Sum db aP) := aqA (s.1.2.2.2.1) (s.1.2.2.2.2.1) (s.2.1.1) (s.2.1.2.1) (s.2.1.2.2.1) (s.2.1.2.2.2.1) (s.2.1.2.2.2.2.1) (s.2.1.2.2.2.2.2.1) (s.2.1.2.2.2.2.2.2.1) (s.2.1.2.2.2.2.2.2.2.1) (s.2.1.2.2.2.2.2.2.2.2.1) (s.2.1.2.2.2.2.2.2.2.2.2.1) (s.2.1.2.2.2.2.2.2.2.2.2.2.1) (s.2.2.1) (s.2.2.2.1)
theorem aqv (s : db) (Q : Sum db aP → Prop) : wps te FO ay 1000 (bF (ao Tryz.f91) 0) (D5.inj s) (cQ D5 agN (Q : Sum D5.T aP → Prop)) = (D8 s).wpR Q := by kernel_rfl
def KL (g0_0 : db → mi) (s : db) : OT aP := (.ok ⟨(.exit 0, vA), g0_0 s⟩)
def D4 : Shape := ⟨53, [(2, .ptr 0 0 0), (3, .ptr 1 0 0), (4, .ptr 2 0 0)], [(0, .cells [.val false .u64, .val false .u64, .val false .u64, .val false .u64, .val false .int, .val false .u64, .val false .u64, .val false .u64, .val false .u64, .val false .u64, .val false .u64]), (1, .row .u64), (2, .row .u64)], 0, true⟩
abbrev da : Type := ((Unit) × (Unit) × (Unit) × Unit) × (((UInt64) × (UInt64) × (UInt64) × (UInt64) × (Int) × (UInt64) × (UInt64) × (UInt64) × (UInt64) × (UInt64) × (UInt64) × Unit) × (List (UInt64)) × (List (UInt64)) × Unit)
def pj : Shape := ⟨53, [(4, .ptr 0 0 0)], [(0, .row .u64)], 0, true⟩
abbrev mh : Type := ((Unit) × Unit) × ((List (UInt64)) × Unit)
def agM : SE → Option Shape := jr [] (some pj)
def aqz (c0_0 : UInt64) (c0_1 : UInt64) (c0_2 : UInt64) (c0_3 : UInt64) (c0_4 : Int) (c0_5 : UInt64) (c0_6 : UInt64) (c0_7 : UInt64) (c0_8 : UInt64) (c0_9 : UInt64) (c0_10 : UInt64) (c1 : List (UInt64)) (c2 : List (UInt64)) : OT (Sum da aP) :=
  let z0 : Nat := List.length c1
  let z1 : Bool := decide (4 ≤ z0)
  let z2 : aa × Bool := lk { w0 := List.getD c1 0 0, w1 := List.getD c1 1 0, w2 := List.getD c1 2 0, w3 := List.getD c1 3 0 } { w0 := c0_0, w1 := c0_1, w2 := c0_2, w3 := c0_3 }
  let z3 := z2.fst
  (gd [z1] (.br (z2.snd)
  (gd [z1, decide ((4 / 1 : Nat) + 0 ≤ List.length c2)] (.ok (.inr ⟨(.ret, pj), (((), ()), (lay c2 c1 4 (0 : UInt64), ()))⟩)))
  (gd [decide ((4 / 1 : Nat) + 0 ≤ z0)] (.ok (.inl (((), ((), ((), ()))), ((c0_0, (c0_1, (c0_2, (c0_3, (c0_4, (c0_5, (c0_6, (c0_7, (c0_8, (c0_9, (c0_10, ()))))))))))), (List.set (List.set (List.set (List.set c1 0 z3.w0) 1 z3.w1) 2 z3.w2) 3 z3.w3, (c2, ())))))))))
def D7 (s : da) : OT (Sum da aP) := aqz (s.2.1.1) (s.2.1.2.1) (s.2.1.2.2.1) (s.2.1.2.2.2.1) (s.2.1.2.2.2.2.1) (s.2.1.2.2.2.2.2.1) (s.2.1.2.2.2.2.2.2.1) (s.2.1.2.2.2.2.2.2.2.1) (s.2.1.2.2.2.2.2.2.2.2.1) (s.2.1.2.2.2.2.2.2.2.2.2.1) (s.2.1.2.2.2.2.2.2.2.2.2.2.1) (s.2.2.1) (s.2.2.2.1)
theorem aqu (s : da) (Q : Sum da aP → Prop) : wps te FO ay 1000 (bF (ao Tryz.f91) 2) (D4.inj s) (cQ D4 agM (Q : Sum D4.T aP → Prop)) = (D7 s).wpR Q := by kernel_rfl
def KK (g2_r : da → mh) (s : da) : OT aP := (.ok ⟨(.ret, pj), g2_r s⟩)
def nl : az := ⟨[.val true .elem], [], false⟩
def Yd : SV → Option az := fun _ => some nl
def D9 (ok0 : db → Bool) (g0_0 : db → mi) (ok2 : da → Bool) (g2_r : da → mh) (a0 : (aa × (Int × (UInt64 × (UInt64 × aa))))) (a1 : aa) : OT mj.Y :=
  let z0 : Bool := !a0.snd.snd.fst == (0 : UInt64)
  let z1 : (UInt64 × UInt64 × UInt64 × UInt64 × Int × UInt64 × UInt64 × UInt64 × UInt64 × UInt64 × UInt64 × PUnit) × List UInt64 × List UInt64 × PUnit := ((a0.fst.w0, a0.fst.w1, a0.fst.w2, a0.fst.w3, a0.snd.fst, a0.snd.snd.fst, a0.snd.snd.snd.fst, a0.snd.snd.snd.snd.w0, a0.snd.snd.snd.snd.w1, a0.snd.snd.snd.snd.w2, a0.snd.snd.snd.snd.w3, ()), [a1.w0, a1.w1, a1.w2, a1.w3], [(0 : UInt64), (0 : UInt64), (0 : UInt64), (0 : UInt64)], ())
  let z2 : (PUnit × PUnit × PUnit × UInt64 × Int × PUnit) × (UInt64 × UInt64 × UInt64 × UInt64 × Int × UInt64 × UInt64 × UInt64 × UInt64 × UInt64 × UInt64 × PUnit) × List UInt64 × List UInt64 × PUnit := (((), (), (), (0 : UInt64), (3 : Int), ()), z1)
  let z3 : (PUnit × UInt64 × PUnit) × List UInt64 × PUnit := g0_0 z2
  let z4 := z3.snd.fst
  let z5 : List UInt64 := List.set (List.set (List.set (List.set z4 0 z3.fst.snd.fst) 1 (0 : UInt64)) 2 (0 : UInt64)) 3 (0 : UInt64)
  let z6 : (PUnit × PUnit × PUnit × PUnit) × (UInt64 × UInt64 × UInt64 × UInt64 × Int × UInt64 × UInt64 × UInt64 × UInt64 × UInt64 × UInt64 × PUnit) × List UInt64 × List UInt64 × PUnit := (((), (), (), ()), z1)
  let z7 := (g2_r z6).snd.fst
  (.br (z0)
  (.br (a1.w1 ||| a1.w2 ||| a1.w3 == (0 : UInt64))
    (gd [z0] (.ok ⟨nl, (({ w0 := a1.w0 % a0.snd.snd.fst, w1 := 0, w2 := 0, w3 := 0 }, ()), ())⟩))
    (gd [ok0 z2, decide ((4 / 1 : Nat) + 0 ≤ List.length z4), decide (4 ≤ List.length z5)] (.ok ⟨nl, (({ w0 := List.getD z5 0 0, w1 := List.getD z5 1 0, w2 := List.getD z5 2 0, w3 := List.getD z5 3 0 }, ()), ())⟩)))
  (gd [ok2 z6, decide (4 ≤ List.length z7)] (.ok ⟨nl, (({ w0 := List.getD z7 0 0, w1 := List.getD z7 1 0, w2 := List.getD z7 2 0, w3 := List.getD z7 3 0 }, ()), ())⟩)))
theorem asU (ok0 : db → Bool) (g0_0 : db → mi) (ok2 : da → Bool) (g2_r : da → mh) (x : aa1) (Q : mj.Y → Prop) : wpf te FO (bg 2 (di D4 2 ok2 (KK g2_r)) (bg 0 (di D5 0 ok0 (KL g0_0)) ay)) 1000 Tryz.f91 (mj.inp.inj x).tm (mj.inp.inj x).hp (fnK mj Yd Q) (fun _ _ => False) = (D9 ok0 g0_0 ok2 g2_r (x.1.1) (x.1.2.1)).wpR Q := by kernel_rfl
theorem agO (ok0 : db → Bool) (g0_0 : db → mi) (ok2 : da → Bool) (g2_r : da → mh) (h0 : ∀ s : db, ok0 s = true → ∃ m e, aq (D8) m s = some e ∧ (KL g0_0 s).run = some e) (h2 : ∀ s : da, ok2 s = true → ∃ m e, aq (D7) m s = some e ∧ (KK g2_r s).run = some e) (pre : aa1 → Bool) (F : aa1 → OT mj.Y) (hF : ∀ (x : aa1) oy, pre x = true → (F x).run = some oy → (D9 ok0 g0_0 ok2 g2_r (x.1.1) (x.1.2.1)).run = some oy) : ac Tryz.prog 91 (mj.aH pre F) :=
  aC au qc zL (f := 91) (fn := Tryz.f91) (c := ao Tryz.f91) (by kernel_rfl) (by kernel_rfl) (by kernel_rfl) (S := mj) (k := 0) (by kernel_rfl) (fun R hR => (aF (c := (ao Tryz.f91)) (by kernel_rfl) (id := 2) (by kernel_rfl) (bt au qc zL (sh := D4) hR (xs := agM) (aG (by kernel_rfl) (by kernel_rfl) hR) aW af (n := 1000) (T := D7) (fun s Q => aqu s Q) (ok := ok2) (f := KK g2_r) h2) (aF (c := (ao Tryz.f91)) (by kernel_rfl) (id := 0) (by kernel_rfl) (bt au qc zL (sh := D5) hR (xs := agN) (aG (by kernel_rfl) (by kernel_rfl) hR) aW af (n := 1000) (T := D8) (fun s Q => aqv s Q) (ok := ok0) (f := KL g0_0) h0) af))) (n := 1000) (sel := Yd) (fun v o h => by cases h; rfl) (pre := pre) (F := F) (T := fun x => D9 ok0 g0_0 ok2 g2_r (x.1.1) (x.1.2.1)) (fun x Q => asU ok0 g0_0 ok2 g2_r x Q) hF
def n0 (n : LZ) : Bool := decide (n = bT 0) || (decide (n = bT 1) || (decide (n = bT 2) || decide (n = bT 3)))
theorem tc {n : LZ} (h : n0 n = true) : n = bT 0 ∨ n = bT 1 ∨ n = bT 2 ∨ n = bT 3 := by
  simpa [n0] using h
theorem qX {s : Int} (h : ak s = true) : n0 (bT s.toNat) = true := by
  rcases cr h with rfl | rfl | rfl | rfl <;> decide +kernel
def ase (c : List UInt64) (m : UInt64) : UInt64 := upto (fun k r => Pb r (c.getD (3 - k) 0) m) 0 4
theorem jF {m : UInt64} (h : eY m = true) : 0 < m.toNat := by
  rcases dw h with rfl | rfl <;> decide
theorem WM {a : aa} {m : UInt64} (h : eY m = true) : ase (lst a) m = UInt64.ofNat (a.nat % m.toNat) := by
  have hm := jF h
  rw [← UInt64.toNat_inj, UInt64.toNat_ofNat', Nat.mod_eq_of_lt (b := 2 ^ 64) (Nat.lt_trans (Nat.mod_lt _ hm) m.toNat_lt)]
  show (Pb (Pb (Pb (Pb 0 a.w3 m) a.w2 m) a.w1 m) a.w0 m).toNat = _
  rw [nr hm, nr hm, nr hm, nr hm, Kl _ a.w2.toNat, Kl _ a.w1.toNat, Kl _ a.w0.toNat, show (0 : UInt64).toNat = 0 from rfl]
  congr 1
  unfold Sx.aa.nat
  omega
def vz (s : db) : Bool := decide (s.1.2.2.2.1 = 0 ∧ s.1.2.2.2.2.1 = 3 ∧ s.2.2.1.length = 4) && eY s.2.1.2.2.2.2.2.1
def KJ (s : db) : mi := (((), ase s.2.2.1 s.2.1.2.2.2.2.2.1, ()), (s.2.2.2.1, ()))
theorem aqy : ∀ s : db, vz s = true → ∃ m e, aq D8 m s = some e ∧ (KL KJ s).run = some e := by
  rintro ⟨⟨⟨⟩, ⟨⟩, ⟨⟩, r, i, ⟨⟩⟩, ⟨⟨x0, x1, x2, x3, x4, sm, x6, x7, x8, x9, x10, ⟨⟩⟩, c1, c2, ⟨⟩⟩⟩ h
  simp only [vz, Bool.and_eq_true, decide_eq_true_eq] at h
  obtain ⟨⟨rfl, rfl, hl⟩, hs⟩ := h
  have hm := jF hs
  have := (bP (T := D8) (fun k r => ((((), (), (), r, 3 - (k : Int), ()), ((x0, x1, x2, x3, x4, sm, x6, x7, x8, x9, x10, ()), c1, c2, ())) : db)) (fun k r => Pb r (c1.getD (3 - k) 0) sm)
    (fun r => (⟨(.exit 0, vA), (((), r, ()), (c2, ()))⟩ : aP)) 4 0 (fun _ r => r.toNat < sm.toNat) hm (fun k r hk hr => ⟨?_, ?_⟩) (fun r hr => ?_)).1
  · obtain ⟨m, hm⟩ := this
    exact ⟨m, _, hm, rfl⟩
  · have e1 : (3 - (k : Int)).toNat = 3 - k := by omega
    have e2 : (3 : Int) - (k : Int) - 1 = 3 - ((k + 1 : Nat) : Int) := by omega
    refine (OT.ap (decide_eq_true (by dsimp only; omega))).trans ((al ?_).trans ?_)
    · simp only [e1, Nat.add_zero, hl, List.all_cons, List.all_nil, Bool.and_true, Bool.and_eq_true]
      refine ⟨bD (by omega), decide_eq_true (by omega), ?_, bE (by omega)⟩
      simp only [rC, Bool.and_eq_true]
      exact ⟨hs, decide_eq_true (UInt64.lt_iff_toNat_lt.2 hr)⟩
    · simp only [OT.jG, e1, e2, Nat.add_zero]
  · rw [nr hm]
    exact Nat.mod_lt _ hm
  · exact OT.aw (decide_eq_false (by dsimp only; omega))
def aub (s : da) : aa := ⟨s.2.1.1, s.2.1.2.1, s.2.1.2.2.1, s.2.1.2.2.2.1⟩
def BP (s : da) : Bool := decide (s.2.2.1.length = 4 ∧ s.2.2.2.1.length = 4 ∧ 0 < (aub s).nat)
def KI (s : da) : mh := (((), ()), (lst (ofN ((elemOf s.2.2.1).nat % (aub s).nat)), ()))
theorem aaZ {x0 x1 x2 x3 x5 x6 x7 x8 x9 x10 : UInt64} {x4 : Int} {c2 : List UInt64} (hc : c2.length = 4) (hm : 0 < (aa.mk x0 x1 x2 x3).nat) : ∀ (n : Nat) (a : aa), a.nat = n →
    ∃ m, aq D7 m (((), (), (), ()), ((x0, x1, x2, x3, x4, x5, x6, x7, x8, x9, x10, ()), lst a, c2, ())) = some ⟨(.ret, pj), (((), ()), (lst (ofN (a.nat % (aa.mk x0 x1 x2 x3).nat)), ()))⟩ := by
  intro n
  induction n using Nat.strongRecOn with
  | _ n ih =>
    intro a hn
    cases hb : Nat.blt a.nat (aa.mk x0 x1 x2 x3).nat
    · have hle : (aa.mk x0 x1 x2 x3).nat ≤ a.nat := by
        rcases Nat.lt_or_ge a.nat (aa.mk x0 x1 x2 x3).nat with h | h
        · have : Nat.blt a.nat (aa.mk x0 x1 x2 x3).nat = true := Nat.ble_eq_true_of_le h
          rw [this] at hb; cases hb
        · exact h
      have hd := mJ hle
      obtain ⟨m, hm2⟩ := ih (a.nat - (aa.mk x0 x1 x2 x3).nat) (by omega) (lk a ⟨x0, x1, x2, x3⟩).1 hd
      rw [hd, ← Nat.mod_eq_sub_mod hle] at hm2
      refine ⟨m + 1, aM ?_ hm2⟩
      refine (al ?_).trans ((OT.aw hb).trans ((al ?_).trans rfl))
      · rfl
      · rfl
    · have hlt := cL hb
      rw [Nat.mod_eq_of_lt hlt, qW]
      refine ⟨1, aL ?_⟩
      refine (al ?_).trans ((OT.ap hb).trans ((al ?_).trans ?_))
      · rfl
      · simp only [hc, List.all_cons, List.all_nil, Bool.and_true, Bool.and_eq_true]
        exact ⟨rfl, rfl⟩
      · show some (Sum.inr (⟨(.ret, pj), (((), ()), (lay c2 (lst a) 4 0, ()))⟩ : aP)) = _
        rw [agl hc (cV a)]
theorem aqx : ∀ s : da, BP s = true → ∃ m e, aq D7 m s = some e ∧ (KK KI s).run = some e := by
  rintro ⟨⟨⟨⟩, ⟨⟩, ⟨⟩, ⟨⟩⟩, ⟨⟨x0, x1, x2, x3, x4, x5, x6, x7, x8, x9, x10, ⟨⟩⟩, c1, c2, ⟨⟩⟩⟩ h
  have h' := of_decide_eq_true h
  dsimp only [aub] at h'
  obtain ⟨h1, h2, h3⟩ := h'
  obtain ⟨m, hm⟩ := aaZ (x4 := x4) (x5 := x5) (x6 := x6) (x7 := x7) (x8 := x8) (x9 := x9) (x10 := x10) h2 h3 _ (elemOf c1) rfl
  rw [bl h1] at hm
  exact ⟨m, _, hm, rfl⟩
def gK (x : aa1) : Bool := n0 x.1.1
def anA (x : aa1) : OT mj.Y := .ok ⟨nl, ((ofN (x.1.2.1.nat % x.1.1.1.nat), ()), ())⟩
theorem oY {n : Nat} (h : n < 18446744073709551616) : ofN n = ⟨UInt64.ofNat n, 0, 0, 0⟩ := by
  refine afQ (k := 0) ?_
  rw [UInt64.toNat_ofNat', Nat.mod_eq_of_lt (by omega)]
  simp
theorem D6 {n : LZ} {a : aa} {m : UInt64} (h1 : n.1 = ⟨m, 0, 0, 0⟩) (h2 : n.2.2.1 = m) (hs : eY m = true) : (D9 vz KJ BP KI n a).run = some ⟨nl, ((ofN (a.nat % n.1.nat), ()), ())⟩ := by
  have hm := jF hs
  have hn : n.1.nat = m.toNat := by rw [h1]; show m.toNat + _ * (0 + _ * (0 + _ * 0)) = _; omega
  have hz : (!(n.2.2.1 == 0)) = true := by
    rw [h2]
    rcases dw hs with rfl | rfl <;> rfl
  have hlt : a.nat % m.toNat < 18446744073709551616 := Nat.lt_trans (Nat.mod_lt _ hm) m.toNat_lt
  rw [hn, oY hlt]
  unfold D9
  refine (OT.ap hz).trans ?_
  cases hb : (a.w1 ||| a.w2 ||| a.w3 == 0)
  · refine (OT.aw rfl).trans ((al ?_).trans ?_)
    · simp only [List.all_cons, List.all_nil, Bool.and_true, Bool.and_eq_true]
      refine ⟨?_, rfl, rfl⟩
      show (decide _ && eY n.2.2.1) = true
      rw [h2, hs, Bool.and_true]
      exact decide_eq_true ⟨rfl, rfl, rfl⟩
    · show some (⟨nl, ((⟨ase (lst a) n.2.2.1, 0, 0, 0⟩, ()), ())⟩ : mj.Y) = _
      rw [h2, WM hs]
  · refine (OT.ap rfl).trans ((al ?_).trans ?_)
    · simp only [hz, List.all_cons, List.all_nil, Bool.and_true]
    · have hw : a.w1 = 0 ∧ a.w2 = 0 ∧ a.w3 = 0 := by
        have : a.w1 ||| a.w2 ||| a.w3 = 0 := by simpa using hb
        simpa [UInt64.or_eq_zero_iff, and_assoc] using this
      have ha : a.nat = a.w0.toNat := by
        unfold Sx.aa.nat
        rw [hw.1, hw.2.1, hw.2.2]
        show _ + _ * (0 + _ * (0 + _ * 0)) = _
        omega
      show some (⟨nl, ((⟨a.w0 % n.2.2.1, 0, 0, 0⟩, ()), ())⟩ : mj.Y) = _
      have e : a.w0 % n.2.2.1 = UInt64.ofNat (a.nat % m.toNat) := by
        rw [h2, ha, ← UInt64.toNat_inj, UInt64.toNat_mod, UInt64.toNat_ofNat']
        exact (Nat.mod_eq_of_lt (by rw [← ha]; omega)).symm
      rw [e]
theorem H4 {n : LZ} {a : aa} (h2 : n.2.2.1 = 0) (hs : 0 < n.1.nat) : (D9 vz KJ BP KI n a).run = some ⟨nl, ((ofN (a.nat % n.1.nat), ()), ())⟩ := by
  unfold D9
  refine (OT.aw (by rw [h2]; rfl)).trans ((al ?_).trans ?_)
  · simp only [List.all_cons, List.all_nil, Bool.and_true, Bool.and_eq_true]
    exact ⟨decide_eq_true ⟨rfl, rfl, hs⟩, rfl⟩
  · rfl
theorem auz : 0 < (bT 2).1.nat := by decide +kernel
theorem auy : 0 < (bT 3).1.nat := by decide +kernel
theorem aqw : ac Tryz.prog 91 (mj.aH gK anA) := agO vz KJ BP KI aqy aqx _ _ fun x oy hp ho => by
  rw [← ho]
  clear ho
  obtain ⟨⟨n, a, ⟨⟩⟩, ⟨⟩⟩ := x
  have hp' : n0 n = true := hp
  rcases tc hp' with rfl | rfl | rfl | rfl
  · exact D6 (m := 16513537) rfl rfl rfl
  · exact D6 (m := 16521217) rfl rfl rfl
  · exact H4 rfl auz
  · exact H4 rfl auy
def D3 : cG := (mj.aH gK anA)
theorem aa0 : ac Tryz.prog 91 D3 := aqw
theorem aaY : aK D3 := aB
def Qg : Env := aA 91 D3 FO
theorem FF : aV Tryz.prog Qg := ai aa0 qc
theorem FG : ax Qg := ae aaY FN
theorem aca : aZ Tryz.prog te Qg := aN follows au FF FG
def kq : av := ⟨[.val true (.prod .elem (.prod .int (.prod .u64 (.prod .u64 .elem)))), .val true .elem, .val true .elem], [], true, 0, false⟩
abbrev Ic : Type := (((aa × (Int × (UInt64 × (UInt64 × aa))))) × (aa) × (aa) × Unit) × (Unit)
def KU : az := ⟨[.val true .elem], [], false⟩
def O3 : SV → Option az := fun _ => some KU
def Td (a0 : (aa × (Int × (UInt64 × (UInt64 × aa))))) (a1 : aa) (a2 : aa) : OT kq.Y :=
  let z0 : Nat := aa.nat a0.fst
  let z1 : aa := (ui (ofN (aa.nat a1 % z0)) (ofN (aa.nat a2 % z0))).fst
  (gd [gK ((a0, a1, ()), ()), gK ((a0, a2, ()), ()), gK ((a0, z1, ()), ())] (.ok ⟨KU, ((ofN (aa.nat z1 % z0), ()), ())⟩))
theorem aqQ (x : Ic) (Q : kq.Y → Prop) : wpf te Qg ay 1000 Tryz.f78 (kq.inp.inj x).tm (kq.inp.inj x).hp (fnK kq O3 Q) (fun _ _ => False) = (Td (x.1.1) (x.1.2.1) (x.1.2.2.1)).wpR Q := by kernel_rfl
theorem abr (pre : Ic → Bool) (F : Ic → OT kq.Y) (hF : ∀ (x : Ic) oy, pre x = true → (F x).run = some oy → (Td (x.1.1) (x.1.2.1) (x.1.2.2.1)).run = some oy) : ac Tryz.prog 78 (kq.aH pre F) :=
  aC au FF aca (f := 78) (fn := Tryz.f78) (c := ao Tryz.f78) (by kernel_rfl) (by kernel_rfl) (by kernel_rfl) (S := kq) (k := 0) (by kernel_rfl) (fun R hR => af) (n := 1000) (sel := O3) (fun v o h => by cases h; rfl) (pre := pre) (F := F) (T := fun x => Td (x.1.1) (x.1.2.1) (x.1.2.2.1)) (fun x Q => aqQ x Q) hF
theorem vh {n : LZ} (h : n0 n = true) : 0 < n.1.nat ∧ n.1.nat < 57896044618658097711785492504343953926634992332820282019728792003956564819968 := by
  rcases tc h with rfl | rfl | rfl | rfl
  · exact ⟨by decide +kernel, by decide +kernel⟩
  · exact ⟨by decide +kernel, by decide +kernel⟩
  · exact ⟨by decide +kernel, by decide +kernel⟩
  · exact ⟨by decide +kernel, by decide +kernel⟩
def pS (s : Int) : Nat := (bT s.toNat).1.nat
theorem fx {s : Int} (h : ak s = true) : 0 < pS s ∧ pS s < 57896044618658097711785492504343953926634992332820282019728792003956564819968 := vh (qX h)
def n7 (p : Nat) (a b : aa) : aa := ofN ((a.nat + b.nat) % p)
def Gm (p : Nat) (a : aa) : aa := ofN ((p - a.nat % p) % p)
def aR (p : Nat) (a b : aa) : aa := ofN (a.nat * b.nat % p)
theorem cH {p n : Nat} (h : 0 < p ∧ p < 57896044618658097711785492504343953926634992332820282019728792003956564819968) : (ofN (n % p)).nat = n % p := by
  have := Nat.mod_lt n h.1
  exact ia (by omega)
theorem ail {p : Nat} (h : 0 < p ∧ p < 57896044618658097711785492504343953926634992332820282019728792003956564819968) (a b : aa) : ofN ((ui (ofN (a.nat % p)) (ofN (b.nat % p))).1.nat % p) = n7 p a b := by
  have ha := Nat.mod_lt a.nat h.1
  have hb := Nat.mod_lt b.nat h.1
  have e : (ui (ofN (a.nat % p)) (ofN (b.nat % p))).1.nat = a.nat % p + b.nat % p := by
    show (ofN _).nat = _
    rw [cH h, cH h]
    exact ia (by omega)
  unfold n7
  rw [e, ← Nat.add_mod]
def Ey (x : Ic) : Bool := n0 x.1.1
def Te (x : Ic) : OT kq.Y := .ok ⟨KU, ((n7 x.1.1.1.nat x.1.2.1 x.1.2.2.1, ()), ())⟩
theorem amn : ac Tryz.prog 78 (kq.aH Ey Te) := abr _ _ fun x oy hp ho => by
  rw [← ho]
  clear ho
  obtain ⟨⟨n, a, b, ⟨⟩⟩, ⟨⟩⟩ := x
  have hp' : n0 n = true := hp
  refine (al ?_).trans ?_
  · simp only [List.all_cons, List.all_nil, Bool.and_true, Bool.and_eq_true]
    exact ⟨hp', hp', hp'⟩
  · simp only [Te, ail (vh hp')]
def yS : cG := (kq.aH Ey Te)
theorem Tc : ac Tryz.prog 78 yS := amn
theorem Tb : aK yS := aB
def FY : Env := aA 78 yS Qg
theorem zN : aV Tryz.prog FY := ai Tc FF
theorem A4 : ax FY := ae Tb FG
theorem Un : aZ Tryz.prog te FY := aN follows au zN A4
def kn : av := ⟨[.val true (.prod .elem (.prod .int (.prod .u64 (.prod .u64 .elem)))), .val true .elem], [], true, 0, false⟩
abbrev H5 : Type := (((aa × (Int × (UInt64 × (UInt64 × aa))))) × (aa) × Unit) × (Unit)
def KN : az := ⟨[.val true .elem], [], false⟩
def OS : SV → Option az := fun _ => some KN
def S1 (a0 : (aa × (Int × (UInt64 × (UInt64 × aa))))) (a1 : aa) : OT kn.Y :=
  let z0 : Nat := aa.nat a0.fst
  let z1 : aa := (lk a0.fst (ofN (aa.nat a1 % z0))).fst
  (gd [gK ((a0, a1, ()), ()), gK ((a0, z1, ()), ())] (.ok ⟨KN, ((ofN (aa.nat z1 % z0), ()), ())⟩))
theorem aqE (x : H5) (Q : kn.Y → Prop) : wpf te FY ay 1000 Tryz.f139 (kn.inp.inj x).tm (kn.inp.inj x).hp (fnK kn OS Q) (fun _ _ => False) = (S1 (x.1.1) (x.1.2.1)).wpR Q := by kernel_rfl
theorem aa5 (pre : H5 → Bool) (F : H5 → OT kn.Y) (hF : ∀ (x : H5) oy, pre x = true → (F x).run = some oy → (S1 (x.1.1) (x.1.2.1)).run = some oy) : ac Tryz.prog 139 (kn.aH pre F) :=
  aC au zN Un (f := 139) (fn := Tryz.f139) (c := ao Tryz.f139) (by kernel_rfl) (by kernel_rfl) (by kernel_rfl) (S := kn) (k := 0) (by kernel_rfl) (fun R hR => af) (n := 1000) (sel := OS) (fun v o h => by cases h; rfl) (pre := pre) (F := F) (T := fun x => S1 (x.1.1) (x.1.2.1)) (fun x Q => aqE x Q) hF
theorem ap9 {m : aa} (h : 0 < m.nat ∧ m.nat < 57896044618658097711785492504343953926634992332820282019728792003956564819968) (a : aa) : ofN ((lk m (ofN (a.nat % m.nat))).1.nat % m.nat) = Gm m.nat a := by
  have ha := Nat.mod_lt a.nat h.1
  have e := cH (n := a.nat) h
  have e2 : (lk m (ofN (a.nat % m.nat))).1.nat = m.nat - a.nat % m.nat := by
    rw [mJ (by rw [e]; omega), e]
  unfold Gm
  rw [e2]
def Ee (x : H5) : Bool := n0 x.1.1
def S2 (x : H5) : OT kn.Y := .ok ⟨KN, ((Gm x.1.1.1.nat x.1.2.1, ()), ())⟩
theorem amh : ac Tryz.prog 139 (kn.aH Ee S2) := aa5 _ _ fun x oy hp ho => by
  rw [← ho]
  clear ho
  obtain ⟨⟨n, a, ⟨⟩⟩, ⟨⟩⟩ := x
  have hp' : n0 n = true := hp
  refine (al ?_).trans ?_
  · simp only [List.all_cons, List.all_nil, Bool.and_true, Bool.and_eq_true]
    exact ⟨hp', hp'⟩
  · simp only [S2, ap9 (vh hp')]
def yP : cG := (kn.aH Ee S2)
theorem SZ : ac Tryz.prog 139 yP := amh
theorem SY : aK yP := aB
def FJ : Env := aA 139 yP FY
theorem zJ : aV Tryz.prog FJ := ai SZ zN
theorem A1 : ax FJ := ae SY A4
theorem Ul : aZ Tryz.prog te FJ := aN follows au zJ A1
def pA : av := ⟨[.val false .int, .val true .elem, .val true .elem], [], true, 0, false⟩
abbrev abq : Type := ((Int) × (aa) × (aa) × Unit) × (Unit)
def Ex : az := ⟨[.val true .elem], [], false⟩
def Yt : SV → Option az := fun _ => some Ex
def ahb (a0 : Int) (a1 : aa) (a2 : aa) : OT pA.Y :=
  let z0 : aa × Int × UInt64 × UInt64 × aa := bT (Int.toNat a0)
  (.br (ak a0)
  (gd [Ey ((z0, a1, a2, ()), ())] (.ok ⟨Ex, ((n7 (aa.nat z0.fst) a1 a2, ()), ())⟩))
  (.ok ⟨Ex, (({ w0 := 0, w1 := 0, w2 := 0, w3 := 0 }, ()), ())⟩))
theorem as3 (x : abq) (Q : pA.Y → Prop) : wpf te FJ ay 1000 Tryz.f43 (pA.inp.inj x).tm (pA.inp.inj x).hp (fnK pA Yt Q) (fun _ _ => False) = (ahb (x.1.1) (x.1.2.1) (x.1.2.2.1)).wpR Q := by kernel_rfl
theorem aha (pre : abq → Bool) (F : abq → OT pA.Y) (hF : ∀ (x : abq) oy, pre x = true → (F x).run = some oy → (ahb (x.1.1) (x.1.2.1) (x.1.2.2.1)).run = some oy) : ac Tryz.prog 43 (pA.aH pre F) :=
  aC au zJ Ul (f := 43) (fn := Tryz.f43) (c := ao Tryz.f43) (by kernel_rfl) (by kernel_rfl) (by kernel_rfl) (S := pA) (k := 0) (by kernel_rfl) (fun R hR => af) (n := 1000) (sel := Yt) (fun v o h => by cases h; rfl) (pre := pre) (F := F) (T := fun x => ahb (x.1.1) (x.1.2.1) (x.1.2.2.1)) (fun x Q => as3 x Q) hF
def Yu (_ : abq) : Bool := true
def anH (x : abq) : OT pA.Y := .br (ak x.1.1) (.ok ⟨Ex, ((n7 (pS x.1.1) x.1.2.1 x.1.2.2.1, ()), ())⟩) (.ok ⟨Ex, ((⟨0, 0, 0, 0⟩, ()), ())⟩)
theorem aqP : ac Tryz.prog 43 (pA.aH Yu anH) := aha _ _ fun x oy hp ho => by
  rw [← ho]
  clear ho
  obtain ⟨⟨s, a, b, ⟨⟩⟩, ⟨⟩⟩ := x
  cases hs : ak s
  · exact (OT.aw hs).trans (OT.aw (b := ak s) hs).symm
  · refine (OT.ap hs).trans ((al ?_).trans (OT.ap (b := ak s) hs).symm)
    simp only [List.all_cons, List.all_nil, Bool.and_true]
    exact qX hs
def Ew : cG := (pA.aH Yu anH)
theorem abp : ac Tryz.prog 43 Ew := aqP
theorem abo : aK Ew := aB
def Ql : Env := aA 43 Ew FJ
theorem FW : aV Tryz.prog Ql := ai abp zJ
theorem FX : ax Ql := ae abo A1
theorem acg : aZ Tryz.prog te Ql := aN follows au FW FX
def pk : av := ⟨[.val false .int, .val true .elem], [], true, 0, false⟩
abbrev aa4 : Type := ((Int) × (aa) × Unit) × (Unit)
def Ed : az := ⟨[.val true .elem], [], false⟩
def Yg : SV → Option az := fun _ => some Ed
def agU (a0 : Int) (a1 : aa) : OT pk.Y :=
  let z0 : aa × Int × UInt64 × UInt64 × aa := bT (Int.toNat a0)
  (.br (ak a0)
  (gd [Ee ((z0, a1, ()), ())] (.ok ⟨Ed, ((Gm (aa.nat z0.fst) a1, ()), ())⟩))
  (.ok ⟨Ed, (({ w0 := 0, w1 := 0, w2 := 0, w3 := 0 }, ()), ())⟩))
theorem asX (x : aa4) (Q : pk.Y → Prop) : wpf te Ql ay 1000 Tryz.f98 (pk.inp.inj x).tm (pk.inp.inj x).hp (fnK pk Yg Q) (fun _ _ => False) = (agU (x.1.1) (x.1.2.1)).wpR Q := by kernel_rfl
theorem agT (pre : aa4 → Bool) (F : aa4 → OT pk.Y) (hF : ∀ (x : aa4) oy, pre x = true → (F x).run = some oy → (agU (x.1.1) (x.1.2.1)).run = some oy) : ac Tryz.prog 98 (pk.aH pre F) :=
  aC au FW acg (f := 98) (fn := Tryz.f98) (c := ao Tryz.f98) (by kernel_rfl) (by kernel_rfl) (by kernel_rfl) (S := pk) (k := 0) (by kernel_rfl) (fun R hR => af) (n := 1000) (sel := Yg) (fun v o h => by cases h; rfl) (pre := pre) (F := F) (T := fun x => agU (x.1.1) (x.1.2.1)) (fun x Q => asX x Q) hF
def Yh (_ : aa4) : Bool := true
def anB (x : aa4) : OT pk.Y := .br (ak x.1.1) (.ok ⟨Ed, ((Gm (pS x.1.1) x.1.2.1, ()), ())⟩) (.ok ⟨Ed, ((⟨0, 0, 0, 0⟩, ()), ())⟩)
theorem aqD : ac Tryz.prog 98 (pk.aH Yh anB) := agT _ _ fun x oy hp ho => by
  rw [← ho]
  clear ho
  obtain ⟨⟨s, a, ⟨⟩⟩, ⟨⟩⟩ := x
  cases hs : ak s
  · exact (OT.aw hs).trans (OT.aw (b := ak s) hs).symm
  · refine (OT.ap hs).trans ((al ?_).trans (OT.ap (b := ak s) hs).symm)
    simp only [List.all_cons, List.all_nil, Bool.and_true]
    exact qX hs
def Ec : cG := (pk.aH Yh anB)
theorem aa3 : ac Tryz.prog 98 Ec := aqD
theorem aa2 : aK Ec := aB
def Qh : Env := aA 98 Ec Ql
theorem FH : aV Tryz.prog Qh := ai aa3 FW
theorem FI : ax Qh := ae aa2 FX
theorem acb : aZ Tryz.prog te Qh := aN follows au FH FI
def pe : av := ⟨[.val false .int, .val true .elem, .val true .elem], [], true, 0, false⟩
abbrev aaU : Type := ((Int) × (aa) × (aa) × Unit) × (Unit)
def tp : az := ⟨[.val true .elem], [], false⟩
def X9 : SV → Option az := fun _ => some tp
def agK (a0 : Int) (a1 : aa) (a2 : aa) : OT pe.Y :=
  let z0 : Bool := ak a0
  let z1 : Nat := pS a0
  let z2 : aa := { w0 := 0, w1 := 0, w2 := 0, w3 := 0 }
  (.br (z0)
  (.br (z0)
    (.ok ⟨tp, ((n7 z1 a1 (Gm z1 a2), ()), ())⟩)
    (.ok ⟨tp, ((z2, ()), ())⟩))
  (.br (z0)
    (.ok ⟨tp, ((n7 z1 a1 z2, ()), ())⟩)
    (.ok ⟨tp, ((z2, ()), ())⟩)))
theorem asT (x : aaU) (Q : pe.Y → Prop) : wpf te Qh ay 1000 Tryz.f152 (pe.inp.inj x).tm (pe.inp.inj x).hp (fnK pe X9 Q) (fun _ _ => False) = (agK (x.1.1) (x.1.2.1) (x.1.2.2.1)).wpR Q := by kernel_rfl
theorem agJ (pre : aaU → Bool) (F : aaU → OT pe.Y) (hF : ∀ (x : aaU) oy, pre x = true → (F x).run = some oy → (agK (x.1.1) (x.1.2.1) (x.1.2.2.1)).run = some oy) : ac Tryz.prog 152 (pe.aH pre F) :=
  aC au FH acb (f := 152) (fn := Tryz.f152) (c := ao Tryz.f152) (by kernel_rfl) (by kernel_rfl) (by kernel_rfl) (S := pe) (k := 0) (by kernel_rfl) (fun R hR => af) (n := 1000) (sel := X9) (fun v o h => by cases h; rfl) (pre := pre) (F := F) (T := fun x => agK (x.1.1) (x.1.2.1) (x.1.2.2.1)) (fun x Q => asT x Q) hF
def e9 (p : Nat) (a b : aa) : aa := n7 p a (Gm p b)
def Ya (_ : aaU) : Bool := true
def anz (x : aaU) : OT pe.Y := .br (ak x.1.1) (.ok ⟨tp, ((e9 (pS x.1.1) x.1.2.1 x.1.2.2.1, ()), ())⟩) (.ok ⟨tp, ((⟨0, 0, 0, 0⟩, ()), ())⟩)
theorem aqs : ac Tryz.prog 152 (pe.aH Ya anz) := agJ _ _ fun x oy hp ho => by
  rw [← ho]
  clear ho
  obtain ⟨⟨s, a, b, ⟨⟩⟩, ⟨⟩⟩ := x
  cases hs : ak s
  · exact (OT.aw hs).trans ((OT.aw hs).trans (OT.aw (b := ak s) hs).symm)
  · exact (OT.ap hs).trans ((OT.ap hs).trans (OT.ap (b := ak s) hs).symm)
def D0 : cG := (pe.aH Ya anz)
theorem aaT : ac Tryz.prog 152 D0 := aqs
theorem aaS : aK D0 := aB
def IU : Env := aA 152 D0 Qh
theorem wG : aV Tryz.prog IU := ai aaT FH
theorem FD : ax IU := ae aaS FI
theorem IR : aZ Tryz.prog te IU := aN follows au wG FD
end Go.Proofs.YtohjofabochgfaaGreat
