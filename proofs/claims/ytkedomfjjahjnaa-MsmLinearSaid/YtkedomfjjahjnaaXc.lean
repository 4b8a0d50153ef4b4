/- A symbolic machine for Go code over plain data, and functions of the program as it shows them. No statement is proved in this file. -/
import Derived.ProofKit
import Derived.Below
import Derived.OpenShut
import Derived.SizedLaws
import Derived.WalkKit
import Derived.ChangeOld
import Derived.Test.YtkedomfjjahjnaaProg
import Derived.KernelRfl
import Derived.Laws.Externs
import Derived.Lib.Mul64
import Derived.Test.YtkedomfjjahjnaaXb
set_option linter.unusedSimpArgs false
set_option linter.unusedVariables false
set_option linter.unusedSectionVars false

namespace Go.Proofs.Ytkedomfjjahjnaa
namespace Sx
open Go
theorem jG : ∀ {l : List (Nat × Sh)} {x : SlT l} {tm : List SV}, (ek l x tm).length = tm.length
  | [], _, _ => rfl
  | c :: r, x, tm => by simp only [ek, jG, List.length_set]
theorem qE : ∀ {rs : List Sh} {i j : Nat} {x : SlT (indexed j rs)} {tm : List SV}, i < j → (ek (indexed j rs) x tm)[i]? = tm[i]?
  | [], _, _, _, _, _ => rfl
  | s :: r, i, j, x, tm, h => by
    simp only [indexed, ek]
    refine (qE (rs := r) (i := i) (j := j + 1) (x := x.2) (by omega)).trans ?_
    rw [List.getElem?_set_ne (by omega)]
theorem nv {N R : Ctx} {ν : Nm} {lists : Bool} (hr : Im N R ν lists) : ∀ {rs : List Sh} (_ : lists = true ∨ rs.any Sh.cy = false) {i : Nat} {y : SlT (indexed i rs)} {tm : List SV} {us : List Value}, tm.length = i + rs.length →
    SV.bK N (ek (indexed i rs) y tm) us → SV.bK R (ap.emit.go ν i rs y) (us.drop i)
  | [], _, i, y, tm, us, hl, h => by
    have := SV.aM h
    simp only [indexed, ek] at this
    simp only [List.length_nil] at hl
    simp only [ap.emit.go]
    rw [List.drop_eq_nil_of_le (by omega)]
    exact pc
  | s :: r, hl', i, y, tm, us, hl, h => by
    have h1 : lists = true ∨ s.cy = false := hl'.imp_right fun e => by simp only [List.any_cons, Bool.or_eq_false_iff] at e; exact e.1
    have h2 : lists = true ∨ r.any Sh.cy = false := hl'.imp_right fun e => by simp only [List.any_cons, Bool.or_eq_false_iff] at e; exact e.2
    simp only [List.length_cons] at hl
    have hlen := SV.aM h
    rw [jG] at hlen
    have hi : i < us.length := by omega
    have ih := nv hr h2 (i := i + 1) (y := y.2) (tm := tm.set i (n9 s y.1)) (us := us) (by rw [List.length_set]; omega) h
    have hi2 : i < (ek (indexed i (s :: r)) y tm).length := by rw [jG]; omega
    have hv := SV.j5 h i hi2 hi
    have hg : (ek (indexed i (s :: r)) y tm)[i] = n9 s y.1 := by
      have : (ek (indexed i (s :: r)) y tm)[i]? = some (n9 s y.1) := by
        simp only [indexed, ek]
        refine (qE (rs := r) (i := i) (j := i + 1) (x := y.2) (by omega)).trans ?_
        rw [List.getElem?_set_self (by omega)]
      rw [List.getElem?_eq_getElem hi2] at this
      exact Option.some.inj this
    rw [hg] at hv
    simp only [ap.emit.go]
    rw [List.drop_eq_getElem_cons hi]
    simp only [SV.bK]
    exact ⟨_, _, rfl, I1 hr h1 hv, ih⟩
theorem B6 {ν : Nm} : ∀ {rs : List Sh} {i : Nat} {y : SlT (indexed i rs)}, (ap.emit.go ν i rs y).length = rs.length
  | [], _, _ => rfl
  | s :: r, i, y => by simp only [ap.emit.go, List.length_cons, B6]
theorem adE {R : Ctx} {n : Nat} {x : SV} {v : Value} {l : List SV} (hv : SV.rel R x v) (hn : (YF n x).length = n) (hl : l.length = n) : ∃ us, SV.bK R (YF n x) us ∧ ∀ R', SV.bK R' l us → SV.rel R' (oneOf l) v := by
  unfold YF at hn ⊢
  cases hb : Nat.beq n 1
  · rw [hb] at hn
    simp only [cond_false] at hn ⊢
    have hne : n ≠ 1 := fun e => by subst e; cases hb
    cases x <;> simp only [List.length_replicate] at hn ⊢ <;> try omega
    case tup q =>
      simp only [SV.rel] at hv
      obtain ⟨vs, rfl, h1⟩ := hv
      refine ⟨vs, h1, fun R' h2 => ?_⟩
      cases l with
      | nil => simp only [oneOf, SV.rel]; exact ⟨vs, rfl, h2⟩
      | cons a l =>
        cases l with
        | nil => simp at hl; omega
        | cons b l => simp only [oneOf, SV.rel]; exact ⟨vs, rfl, h2⟩
  · have := Nat.eq_of_beq_eq_true hb
    subst this
    simp only [cond_true]
    refine ⟨[v], aU hv, fun R' h2 => ?_⟩
    cases l with
    | nil => simp at hl
    | cons a l =>
      cases l with
      | nil =>
        simp only [oneOf]
        obtain ⟨v', e, h⟩ := cg h2
        cases e
        exact h
      | cons b l => simp at hl
section
variable {P : Program} {te : TE} {Φ : Env} (hte : jZ P te) (hΦ : aW P Φ) (hany : bm P te Φ)
theorem aba {R N1 : Ctx} {w w' : World} {S : ap} {args : List SV} {x : S.T} {k d : Nat} (hm : cX R w) (hx : S.inp.prj ⟨args, R.hp⟩ = some x)
    (hk : S.chunks.all (fun c => Nat.blt c.1 k && !c.2.tL) = true)
    (h1 : (R.named (R.xQ (S.inp.bd ⟨args, R.hp⟩) S.bD w) (R.DQ (S.inp.bd ⟨args, R.hp⟩) S.bD w) (S.inp.bd ⟨args, R.hp⟩) (dp S.chunks x.2)).Ext N1) (hm1 : cX N1 w') {o : az} {y : (o.shape S.fixed).T} {pan : Bool} {v : SV} {u : Value}
    (hv : SV.rel N1 v u) (hy : o.is y pan v N1.hp) (hend : S.rM (S.inp.bd ⟨args, R.hp⟩) R.hp (fresh R.hp d) o = true) :
    ∃ R', eo R R' w' (cG (S.inp.bd ⟨args, R.hp⟩) R.hp S.fixed S.chunks ++ iS (S.nm (S.inp.bd ⟨args, R.hp⟩) R.hp (fresh R.hp d)) o.chunks y.2) ∧
      SV.rel R' (oneOf (ap.emit.indexedN (S.nm (S.inp.bd ⟨args, R.hp⟩) R.hp (fresh R.hp d)) o.rs y.1)) u := by
  obtain ⟨_, hy⟩ := hy
  unfold Shape.prj at hx
  dsimp only at hx
  generalize hbd : S.inp.bd ⟨args, R.hp⟩ = bd at *
  cases hb : S.inp.DE ⟨args, R.hp⟩ bd && Nat.beq args.length S.inp.n
  · rw [hb] at hx; cases hx
  · rw [hb] at hx
    rw [Bool.and_eq_true] at hb
    obtain ⟨hx1, hx2⟩ := bw hx
    have hy' := hy
    unfold Shape.prj at hy'
    dsimp only at hy'
    cases hb2 : (o.shape S.fixed).DE ⟨YF o.rs.length v, N1.hp⟩ ((o.shape S.fixed).bd ⟨YF o.rs.length v, N1.hp⟩) && Nat.beq (YF o.rs.length v).length (o.shape S.fixed).n
    · rw [hb2] at hy'; cases hy'
    · rw [hb2] at hy'
      rw [Bool.and_eq_true] at hb2
      obtain ⟨hy1, hy2⟩ := bw hy'
      have hlen : (YF o.rs.length v).length = o.rs.length := Nat.eq_of_beq_eq_true hb2.2
      obtain ⟨us, hus, hback⟩ := adE (l := ap.emit.indexedN (S.nm bd R.hp (fresh R.hp d)) o.rs y.1) hv hlen B6
      have hsm : Small ((R.named (R.xQ bd S.bD w) (R.DQ bd S.bD w) bd (dp S.chunks x.2)).alQ S.fixed) (o.shape S.fixed).fixed := fun c ch hc => by
        replace hc : cond (Nat.blt c S.fixed) (dp S.chunks x.2 c) none = some ch := hc
        cases hq : Nat.blt c S.fixed
        · rw [hq] at hc; cases hc
        · rw [hq] at hc
          refine ⟨cC hq, ?_⟩
          obtain ⟨s, y', g1, g2, g3⟩ := dB hx2 (hc : dp S.chunks x.2 c = some ch)
          have := (List.all_eq_true.1 hk) _ g1
          simp only [Bool.and_eq_true, Bool.not_eq_true'] at this
          rw [g3]
          cases s <;> first | rfl | (cases this.2; done)
      have hext : ((R.named (R.xQ bd S.bD w) (R.DQ bd S.bD w) bd (dp S.chunks x.2)).alQ S.fixed).Ext N1 := ⟨h1.F, h1.U, fun c ch hc => by
        replace hc : cond (Nat.blt c S.fixed) (dp S.chunks x.2 c) none = some ch := hc
        cases hq : Nat.blt c S.fixed
        · rw [hq] at hc; cases hc
        · rw [hq] at hc
          exact h1.ch c ch hc⟩
      obtain ⟨N2, g1, g2⟩ := Shape.amF (s := o.shape S.fixed) (a := { tmps := us.toArray, defers := [] }) hsm hext ⟨rfl, hm1, hus, rfl⟩ hy
      have hd2 : distinct (o.chunks.map (·.1)) = true := by
        have := hb2.1
        unfold Shape.DE at this
        simp only [Bool.and_eq_true] at this
        exact this.1.1.1
      have H : sC R w w' S args bd x.2 N2 o y.2 (fresh R.hp d) := ⟨hm, hb.1, hx2, g1, g2.mem, g2.hp, ⟨_, _, _, hy2⟩, hd2, hend⟩
      refine ⟨R.di bd w S N2 o y.2 (fresh R.hp d), Wh H, hback _ ?_⟩
      have ht := g2.tm
      have := nv (YH H) (rs := o.rs) ?_ (i := 0) (y := y.1) (tm := List.replicate o.rs.length .cd) (us := us) (by simp) ht
      · exact this
      · rcases mH H with h | h
        · exact .inl (by rw [h]; rfl)
        · exact .inr h.1
include hte hΦ hany
theorem ajf {f : FuncId} {fn : Func} {c : Code} (hf : P.funcs[f]? = some fn) (hb : fn.body = some c) (hname : (fn.name == "runtime.NumGoroutine") = false) {S : ap} {k : Nat} (hk : S.chunks.all (fun c => Nat.blt c.1 k && !c.2.tL) = true) {Λ : Lam}
    (hΛ : ∀ R, Small R k → Cw P R Λ c) {n : Nat} {pre : S.T → Bool} {F : S.T → OT S.Y}
    (h : ∀ x oy, pre x = true → (F x).run = some oy → ∃ K Kp, wpf te Φ Λ n fn (S.inp.inj x).tm (S.inp.inj x).hp K Kp ∧ (∀ v hp, K v hp → oy.1.is oy.2 false v hp) ∧ ∀ v hp, Kp v hp → oy.1.is oy.2 true v hp) : ab P f (S.aK pre F) := by
  refine ⟨?_⟩
  intro R w d args vs out hm hr hrun
  refine .inl ⟨fn, hf, hname, by rw [hb]; rfl, ?_⟩
  simp only [ap.aK] at hrun
  split at hrun
  · cases hrun
  · rename_i x hx
    obtain ⟨hpre, h2⟩ := OT.aC hrun
    obtain ⟨oy, h3, h4⟩ := OT.run_bind h2
    unfold ap.emit at h4
    dsimp only at h4
    obtain ⟨hend, h5⟩ := OT.aC h4
    obtain ⟨K, Kp, hwp, hK1, hK2⟩ := h x oy hpre h3
    have hx' := hx
    unfold Shape.prj at hx'
    dsimp only at hx'
    cases hbo : S.inp.DE ⟨args, R.hp⟩ (S.inp.bd ⟨args, R.hp⟩) && Nat.beq args.length S.inp.n
    · rw [hbo] at hx'; cases hx'
    · rw [hbo] at hx'
      rw [Bool.and_eq_true] at hbo
      obtain ⟨hx1, hx2⟩ := bw hx'
      have hlen : args.length = S.inp.n := Nat.eq_of_beq_eq_true hbo.2
      have hN := GP (s := S.inp) (st := ⟨args, R.hp⟩) (F' := R.xQ (S.inp.bd ⟨args, R.hp⟩) S.bD w) (U' := R.DQ (S.inp.bd ⟨args, R.hp⟩) S.bD w) hbo.1 hx2 rfl hm (KJ hm) (Hi hm) aaI (KI hm) KH af3 hm.env
      have hargs : SV.bK (R.named (R.xQ (S.inp.bd ⟨args, R.hp⟩) S.bD w) (R.DQ (S.inp.bd ⟨args, R.hp⟩) S.bD w) (S.inp.bd ⟨args, R.hp⟩) (dp S.chunks x.2)) (S.inp.inj x).tm vs :=
        kb (s := S.inp) (st := ⟨args, R.hp⟩) hbo.1 hx2 rfl hm (KJ hm) (Hi hm) hr hx1 (SV.vj (by rw [List.length_replicate, ← hlen]; exact SV.aM hr) fun i hi hi' => by simp [SV.rel])
      have hsm : Small (R.named (R.xQ (S.inp.bd ⟨args, R.hp⟩) S.bD w) (R.DQ (S.inp.bd ⟨args, R.hp⟩) S.bD w) (S.inp.bd ⟨args, R.hp⟩) (dp S.chunks x.2)) k := fun c ch hc => by
        obtain ⟨s, y', g1, g2, g3⟩ := dB hx2 (hc : dp S.chunks x.2 c = some ch)
        have := (List.all_eq_true.1 hk) _ g1
        simp only [Bool.and_eq_true, Bool.not_eq_true'] at this
        refine ⟨cC this.1, ?_⟩
        rw [g3]
        cases s <;> first | rfl | (cases this.2; done)
      refine (WS hte hΦ hany hf hb (hΛ _ hsm) hN hargs hwp).mono fun en w' hp => ?_
      rcases hp with ⟨y, v, R₁, rfl, hx1, hm1, hv, hy⟩ | ⟨y, v, R₁, rfl, hx1, hm1, hv, hy⟩
      · replace hy := hK1 _ _ hy
        obtain ⟨R', a1, a2⟩ := aba hm hx hk hx1 hm1 hv hy hend
        rw [hy.1] at h5
        cases h5
        exact ⟨v, R', rfl, a1, a2⟩
      · replace hy := hK2 _ _ hy
        obtain ⟨R', a1, a2⟩ := aba hm hx hk hx1 hm1 hv hy hend
        rw [hy.1] at h5
        cases h5
        exact ⟨v, R', rfl, a1, a2⟩
end
end Sx
end Go.Proofs.Ytkedomfjjahjnaa

namespace Go.Proofs.Ytkedomfjjahjnaa
namespace Sx
open Go
theorem L6 {b : Bd} {n m : Nat} {o o' : Option Nat} (h : cM b m = some o') : cM (PN b n o) m = some o' := by
  unfold PN
  split
  · exact h
  · rename_i hn
    simp only [cM]
    cases hb : Nat.beq n m
    · exact h
    · have := Nat.eq_of_beq_eq_true hb
      subst this
      rw [h] at hn
      cases hn
theorem xW : ∀ {ns : List Nat} {l : List SV} {b : Bd} {m : Nat} {o : Option Nat}, cM b m = some o → cM (zr ns l b) m = some o
  | [], _, _, _, _, h => h
  | n :: ns, [], _, _, _, h => h
  | n :: ns, y :: r, b, m, o, h => by
    cases y <;> simp only [zr] <;> first | exact h | exact xW (L6 h)
theorem PK {s : Sh} {x : SV} {b : Bd} {m : Nat} {o : Option Nat} (h : cM b m = some o) : cM (Ib s x b) m = some o := by
  unfold Ib
  split <;> first | exact h | exact L6 h | exact xW h
theorem mM : ∀ {l : List Sh} {cs : List SV} {b : Bd} {m : Nat} {o : Option Nat}, cM b m = some o → cM (lJ l cs b) m = some o
  | [], _, _, _, _, h => h
  | s :: r, cs, b, m, o, h => by
    simp only [lJ]
    exact mM (PK h)
theorem kF {hp : Hp} : ∀ {l : List (Nat × CSh)} {b : Bd} {m : Nat} {o : Option Nat}, cM b m = some o → cM (ef hp l b) m = some o
  | [], _, _, _, h => h
  | (n, s) :: r, b, m, o, h => by
    cases s <;> simp only [ef]
    case cells l =>
      refine kF ?_
      split
      · split
        · exact mM h
        · exact h
      · exact h
    all_goals exact kF h
section
variable {d : Nat} {hp hp' : Hp} (hg : Ws d hp hp')
include hg
theorem iz : ∀ {l : List (Nat × CSh)} {b : Bd}, (∀ q ∈ l, ∀ c, cM (ef hp l b) q.1 = some (some c) → hp c ≠ none) → ef hp' l b = ef hp l b
  | [], _, _ => rfl
  | (n, s) :: r, b, h => by
    cases s <;> simp only [ef] at h ⊢
    case cells l =>
      have e : (match cM b n with | some (some c) => (match hp' c with | some ⟨_, .cells vs⟩ => lJ l vs b | _ => b) | _ => b) = (match cM b n with | some (some c) => (match hp c with | some ⟨_, .cells vs⟩ => lJ l vs b | _ => b) | _ => b) := by
        split
        · rename_i c hc
          have h1 := h (n, .cells l) (by simp) c (kF (by
            split
            · split
              · exact mM hc
              · exact hc
            · exact hc))
          cases hq : hp c with
          | none => exact absurd hq h1
          | some ch => rw [hg.jF _ _ hq]
        · rfl
      exact (congrArg (ef hp' r) e).trans (iz fun q hq c hc => h q (List.mem_cons_of_mem _ hq) c hc)
    all_goals exact iz fun q hq c hc => h q (List.mem_cons_of_mem _ hq) c hc
theorem mC {bd : Bd} {n c e : Nat} (h : wk bd hp n c e = true) : wk bd hp' n c e = true := by
  unfold wk at h ⊢
  split at h
  · rename_i c' hc
    rw [Bool.and_eq_true] at h
    have h2 := h.2
    split at h2
    · rename_i ch hch
      rw [hg.jF _ _ hch]
      simp only
      rw [h.1, h2]
      rfl
    · cases h2
  · cases h
theorem ul {bd : Bd} : ∀ {ns : List Nat} {l : List SV}, rX bd hp ns l = true → rX bd hp' ns l = true
  | [], [], _ => rfl
  | [], _ :: _, h => by cases h
  | n :: ns, [], h => by cases h
  | n :: ns, y :: r, h => by
    cases y <;> simp only [rX] at h ⊢ <;> try (cases h; done)
    simp only [Bool.and_eq_true] at h ⊢
    exact ⟨⟨⟨mC hg h.1.1.1, h.1.1.2⟩, h.1.2⟩, ul h.2⟩
theorem OM {bd : Bd} {s : Sh} {cs : List SV} (h : jY bd hp s cs = true) : jY bd hp' s cs = true := by
  unfold jY at h ⊢
  split at h
  · exact mC hg h
  · exact h
  · simp only [Bool.and_eq_true] at h ⊢
    exact ⟨⟨mC hg h.1.1, h.1.2⟩, h.2⟩
  · simp only [Bool.and_eq_true] at h ⊢
    exact ⟨h.1, ul hg h.2⟩
  · simp only [Bool.and_eq_true] at h ⊢
    exact ⟨h.1, mC hg h.2.1, h.2.2⟩
  · rfl
  · rfl
  · rfl
  · cases h
theorem Ih {ok : Nat → Bool} {t : Ty} {x : SV} {ys : List t.T} (h : wQ ok t hp x = some ys) : wQ ok t hp' x = some ys := by
  have key : ∀ {c : Nat} {f : Option Ch → Option (List t.T)}, f none = none → f (hp c) = some ys → f (hp' c) = some ys := fun {c f} h0 h => by
    cases hq : hp c with
    | none => rw [hq, h0] at h; cases h
    | some ch => rw [hg.jF _ _ hq, ← hq]; exact h
  cases x <;> simp only [wQ] at h ⊢ <;> try (first | exact h | (cases h; done))
  case own c e => exact key (c := c) (f := fun o => match o with | some ⟨ep, .row t' xs⟩ => cond (Nat.beq ep e && ok c) (bO t t' xs) none | some ⟨ep, .frz t' xs⟩ => cond (Nat.beq ep e) (bO t t' xs) none | _ => none) rfl h
  case clip c e => exact key (c := c) (f := fun o => match o with | some ⟨ep, .row t' xs⟩ => cond (Nat.beq ep e && ok c) (bO t t' xs) none | some ⟨ep, .frz t' xs⟩ => cond (Nat.beq ep e) (bO t t' xs) none | _ => none) rfl h
  case part c e off len => exact key (c := c) (f := fun o => match o with | some ⟨ep, .row t' xs⟩ => cond (Nat.beq ep e && ok c) ((bO t t' xs).map fun l => (l.drop off).take len) none | some ⟨ep, .frz t' xs⟩ => cond (Nat.beq ep e) ((bO t t' xs).map fun l => (l.drop off).take len) none | _ => none) rfl h
theorem ml {ok : Nat → Bool} : ∀ {t : Ty} {cs : List SV} {x : t.T}, rl ok hp t cs = some x → rl ok hp' t cs = some x
  | .bool, _, _, h => h
  | .u64, _, _, h => h
  | .u8, _, _, h => h
  | .int, _, _, h => h
  | .str, _, _, h => h
  | .elem, _, _, h => h
  | .prod a b, cs, x, h => by
    obtain ⟨h1, h2⟩ := bw h
    simp only [rl, ml h1, ml h2, nQ]
  | .arr n t, cs, x, h => by
    simp only [rl] at h ⊢
    split at h
    · rename_i hl
      rw [if_pos hl]
      exact iO (fun _ _ => ml) h
    · cases h
  | .list t, cs, x, h => by
    simp only [rl] at h ⊢
    split at h
    · rename_i hp0
      rw [if_pos hp0]
      obtain ⟨y, rfl, hy⟩ := kZ h
      simp only [afV]
      exact Ih hg hy
    · cases h
omit hg in
theorem N7 {a b : Bool} {x : Unit} (hab : a = true → b = true) (h : DN a = some x) : DN b = some x := by
  rw [hab (gF h)]; rfl
theorem xG {bd : Bd} {ok : Nat → Bool} {s : Sh} {cs : List SV} {x : s.T} (h : nM bd ok hp s cs = some x) : nM bd ok hp' s cs = some x := by
  cases s <;> simp only [nM] at h ⊢
  case val b t => exact ml hg h
  all_goals exact N7 (OM hg) h
theorem GC {bd : Bd} {ok : Nat → Bool} {s : Sh} {y : SV} {x : s.T} (h : vP bd ok hp s y = some x) : vP bd ok hp' s y = some x := by
  unfold vP at h ⊢
  split at h
  · exact xG hg h
  · cases h
theorem qD {bd : Bd} {ok : Nat → Bool} : ∀ {l : List Sh} {cs : List SV} {x : ShT l}, kc bd ok hp l cs = some x → kc bd ok hp' l cs = some x
  | [], [], _, h => h
  | [], _ :: _, _, h => by cases h
  | s :: r, cs, x, h => by
    obtain ⟨h1, h2⟩ := bw (show nQ (nM bd ok hp s (cs.take s.size)) (kc bd ok hp r (cs.drop s.size)) = some x from h)
    show nQ (nM bd ok hp' s (cs.take s.size)) (kc bd ok hp' r (cs.drop s.size)) = some x
    rw [xG hg h1, qD h2]
    rfl
theorem qB {bd : Bd} {ok : Nat → Bool} {tm : List SV} : ∀ {l : List (Nat × Sh)} {x : SlT l}, pu bd ok hp tm l = some x → pu bd ok hp' tm l = some x
  | [], _, h => h
  | c :: r, x, h => by
    obtain ⟨h1, h2⟩ := bw h
    simp only [pu, GC hg h1, qB h2, nQ]
    rfl
theorem DL {bd : Bd} {ok : Nat → Bool} {s : CSh} {b : Chunk} {x : s.T} (h : fS bd ok hp s b = some x) : fS bd ok hp' s b = some x := by
  cases s <;> cases b <;> simp only [fS] at h ⊢ <;> first | exact h | exact qD hg h
theorem J5 {bd : Bd} {ok : Nat → Bool} {n : Nat} {s : CSh} {x : s.T} (h : iB bd ok hp n s = some x) : iB bd ok hp' n s = some x := by
  unfold iB at h ⊢
  split at h
  · split at h
    · rename_i ch hch
      rw [hg.jF _ _ hch]
      exact DL hg h
    · cases h
  · exact h
  · exact h
theorem nN {bd : Bd} {ok : Nat → Bool} : ∀ {l : List (Nat × CSh)} {x : DD l}, dt bd ok hp l = some x → dt bd ok hp' l = some x
  | [], _, h => h
  | c :: r, x, h => by
    obtain ⟨h1, h2⟩ := bw h
    simp only [dt, J5 hg h1, nN h2, nQ]
    rfl
omit hg in
theorem mj {bd : Bd} {ok : Nat → Bool} : ∀ {l : List (Nat × CSh)} {x : DD l}, dt bd ok hp l = some x → ∀ q ∈ l, ∀ c, cM bd q.1 = some (some c) → hp c ≠ none
  | [], _, _, _, hq, _, _ => by cases hq
  | c :: r, x, h, q, hq, c', hb => by
    obtain ⟨h1, h2⟩ := bw h
    rcases List.mem_cons.1 hq with he | he
    · subst he
      unfold iB at h1
      rw [hb] at h1
      simp only at h1
      intro hn
      rw [hn] at h1
      cases h1
    · exact mj h2 q he c' hb
theorem ZI {s : Shape} (hfx : s.fixed = 0) {tm : List SV} {x : s.T} (h : s.prj ⟨tm, hp⟩ = some x) : s.prj ⟨tm, hp'⟩ = some x ∧ s.bd ⟨tm, hp'⟩ = s.bd ⟨tm, hp⟩ := by
  unfold Shape.prj at h ⊢
  dsimp only at h ⊢
  cases hb : s.DE ⟨tm, hp⟩ (s.bd ⟨tm, hp⟩) && Nat.beq tm.length s.n
  · rw [hb] at h; cases h
  · rw [hb] at h
    obtain ⟨h1, h2⟩ := bw h
    have e : s.bd ⟨tm, hp'⟩ = s.bd ⟨tm, hp⟩ := iz hg (mj h2)
    have e2 : s.DE ⟨tm, hp'⟩ (s.bd ⟨tm, hp⟩) = s.DE ⟨tm, hp⟩ (s.bd ⟨tm, hp⟩) := by
      unfold Shape.DE
      rw [hfx]
      rfl
    refine ⟨?_, e⟩
    rw [e, e2, hb, cond_true, qB hg h1, nN hg h2]
    rfl
theorem Ff {c : Nat} (h : hp c ≠ none) : S2 hp' c = S2 hp c := by
  unfold S2
  cases hq : hp c with
  | none => exact absurd hq h
  | some ch => rw [hg.jF _ _ hq]
theorem sK {bd : Bd} {fixed : Nat} : ∀ {l : List (Nat × CSh)}, (∀ q ∈ l, ∀ c, cM bd q.1 = some (some c) → hp c ≠ none) → cG bd hp' fixed l = cG bd hp fixed l
  | [], _ => rfl
  | c :: r, h => by
    have ih := sK (bd := bd) (fixed := fixed) (l := r) fun q hq => h q (List.mem_cons_of_mem _ hq)
    simp only [cG, ih]
    cases Nat.blt c.1 fixed
    · simp only [cond_false]
      split
      · rename_i o ho
        rw [Ff hg (h c (by simp) o ho)]
      · rfl
    · rfl
theorem aeX {S : ap} {pre : S.T → Bool} {F : S.T → OT S.Y} {args : List SV} {out : Out} (h : ((S.aK pre F).f d args hp).run = some out) : ((S.aK pre F).f d args hp').run = some out := by
  simp only [ap.aK] at h ⊢
  split at h
  · cases h
  · rename_i x hx
    obtain ⟨e1, e2⟩ := ZI hg (s := S.inp) rfl hx
    rw [e1]
    simp only
    rw [e2]
    obtain ⟨h1, h2⟩ := OT.aC h
    rw [h1]
    obtain ⟨oy, h3, h4⟩ := OT.run_bind h2
    have hold : ∀ q ∈ S.chunks, ∀ c, cM (S.inp.bd ⟨args, hp⟩) q.1 = some (some c) → hp c ≠ none := by
      have hx' := hx
      unfold Shape.prj at hx'
      dsimp only at hx'
      cases hb : S.inp.DE ⟨args, hp⟩ (S.inp.bd ⟨args, hp⟩) && Nat.beq args.length S.inp.n
      · rw [hb] at hx'; cases hx'
      · rw [hb] at hx'
        obtain ⟨_, h2⟩ := bw hx'
        exact mj h2
    have hbok : ∀ p ∈ S.inp.bd ⟨args, hp⟩, ∃ q ∈ S.chunks, q.1 = p.1 := by
      have hx' := hx
      unfold Shape.prj at hx'
      dsimp only at hx'
      cases hb : S.inp.DE ⟨args, hp⟩ (S.inp.bd ⟨args, hp⟩) && Nat.beq args.length S.inp.n
      · rw [hb] at hx'; cases hx'
      · rw [Bool.and_eq_true] at hb
        have := hb.1
        unfold Shape.DE at this
        simp only [Bool.and_eq_true, List.all_eq_true, List.any_eq_true] at this
        intro p hp
        obtain ⟨q, hq, he⟩ := this.1.2 p hp
        exact ⟨q, hq, Nat.eq_of_beq_eq_true he⟩
    have hepN : ∀ n c, cM (S.inp.bd ⟨args, hp⟩) n = some (some c) → S2 hp' c = S2 hp c := fun n c hc => by
      obtain ⟨q, hq, he⟩ := hbok _ (iP hc)
      exact Ff hg (hold q hq c (by rw [he]; exact hc))
    unfold ap.emit at h4
    dsimp only at h4
    obtain ⟨hend, h5⟩ := OT.aC h4
    -- the names
    have hfr : fresh hp' d = fresh hp d := gL hg
    have hnm : ∀ n, S.fixed ≤ n ∨ (∃ c, cM (S.inp.bd ⟨args, hp⟩) n = some (some c)) → S.nm (S.inp.bd ⟨args, hp⟩) hp' (fresh hp d) n = S.nm (S.inp.bd ⟨args, hp⟩) hp (fresh hp d) n := fun n hn => by
      unfold ap.nm
      cases hb : Nat.blt n S.fixed
      · rfl
      · rcases hn with hn | ⟨c, hn⟩
        · have := cC hb; omega
        · simp only [cond_true, nameOf, hn, hepN n c hn]
    have hnmall : S.nm (S.inp.bd ⟨args, hp⟩) hp' (fresh hp d) = S.nm (S.inp.bd ⟨args, hp⟩) hp (fresh hp d) := by
      funext n
      rcases Nat.lt_or_ge n S.fixed with hn | hn
      · refine hnm n (.inr ?_)
        have he := hend
        unfold ap.rM at he
        simp only [Bool.and_eq_true, List.all_eq_true] at he
        have h6 := (he.2.1 n (by simpa using hn)).1
        split at h6
        · rename_i c hc; exact ⟨c, hc⟩
        · cases h6
      · exact hnm n (.inl hn)
    have hend' : S.rM (S.inp.bd ⟨args, hp⟩) hp' (fresh hp d) oy.1 = true := by
      have he := hend
      unfold ap.rM at he ⊢
      simp only [Bool.and_eq_true] at he ⊢
      refine ⟨he.1, he.2.1, he.2.2.1, ?_⟩
      have h6 := he.2.2.2
      simp only [List.all_eq_true, Bool.and_eq_true, Bool.or_eq_true] at h6 ⊢
      intro q hq
      refine ⟨(h6 q hq).1, (h6 q hq).2.imp_right fun h7 => ⟨h7.1, ?_⟩⟩
      have h8 := h7.2
      have hlt := cC h7.1
      cases hz : hp (fresh hp d + (q.1 - S.fixed)) with
      | some ch => rw [hz] at h8; cases h8
      | none =>
        rw [hg.free _ ?_ hz]
        · rfl
        · obtain ⟨k, hk1, hk2⟩ : ∃ k, k ≤ 4000 ∧ fresh hp d = (d + 1) * 4096 + k := by
            have : ∀ (n k : Nat), n + k ≤ 4000 → ∃ j, j ≤ 4000 ∧ dC hp d n k = (d + 1) * 4096 + j := by
              intro n
              induction n with
              | zero => intro k hk; exact ⟨k, by omega, rfl⟩
              | succ n ih =>
                intro k hk
                simp only [dC]
                split
                · exact ⟨k, by omega, rfl⟩
                · exact ih (k + 1) (by omega)
            exact this 4000 0 (by omega)
          rw [hk2]
          unfold iL
          omega
    have hem : (S.emit (S.inp.bd ⟨args, hp⟩) d hp' oy.1 oy.2).run = some out := by
      unfold ap.emit
      dsimp only
      rw [hfr, hend', hnmall, sK hg hold]
      exact h5
    have hbind : ∀ {α β : Type} (t : OT α) (f : α → OT β) (a : α) (b : β), t.run = some a → (f a).run = some b → (t.bind f).run = some b := by
      intro α β t f a b h1 h2
      induction t with
      | ok a' => cases h1; exact h2
      | br c u v hu hv =>
        cases c
        · exact hv h1
        · exact hu h1
      | fail => cases h1
    exact hbind (F x) _ oy out h3 hem
end
theorem aD {S : ap} {pre : S.T → Bool} {F : S.T → OT S.Y} : aL (S.aK pre F) := fun _ _ _ _ _ hg h => aeX hg h
end Sx
end Go.Proofs.Ytkedomfjjahjnaa

namespace Go.Proofs.Ytkedomfjjahjnaa
namespace Sx
open Go
def OT.wpR {α : Type} (t : OT α) (K : α → Prop) : Prop :=
  OT.rec (motive := fun _ => Prop) (fun a => K a) (fun b _ _ x y => Bool.rec (motive := fun _ => Prop) y x b) False t
theorem OT.Qq {α : Type} (t : OT α) (K : α → Prop) : t.wpR K = t.wp K := by
  induction t with
  | ok b => rfl
  | br b x y hx hy =>
    cases b
    · exact hy
    · exact hx
  | fail => rfl
theorem OT.sH {α : Type} {t : OT α} {a : α} {K : α → Prop} (h : t.run = some a) (hk : K a) : t.wp K := by
  induction t with
  | ok b => cases h; exact hk
  | br b x y hx hy =>
    cases b
    · exact hy h
    · exact hx h
  | fail => cases h
def al (fn : Func) : Code := fn.body.getD .skip
abbrev aQ := Sigma fun p : SE × Shape => p.2.T
def cW (sh : Shape) (xs : SE → Option Shape) (Q : Sum sh.T aQ → Prop) (e : SE) (st : St) : Prop := match e with
  | .normal => sh.on st fun s => Q (.inl s)
  | e => match xs e with
    | none => False
    | some s => s.on st fun x => Q (.inr ⟨(e, s), x⟩)
def aq {σ ε : Type} (T : σ → OT (Sum σ ε)) : Nat → σ → Option ε
  | 0, _ => none
  | n + 1, s => match (T s).run with
    | some (.inl s') => aq T n s'
    | some (.inr e) => some e
    | none => none
def dw (sh : Shape) (id : Nat) (ok : sh.T → Bool) (f : sh.T → OT aQ) (st : St) (K : SE → St → Prop) : Prop :=
  sh.on st fun s => cond (ok s) ((f s).wp fun e => K (abx id e.1.1) (e.1.2.inj e.2)) False
section
variable {P : Program} {te : TE} {Φ : Env} (hte : jZ P te) (hΦ : aW P Φ) (hany : bm P te Φ)
include hte hΦ hany
theorem aeH {R₀ : Ctx} {sh : Shape} (h0 : Small R₀ sh.fixed) {xs : SE → Option Shape} (hxs : ∀ e s, xs e = some s → Small R₀ s.fixed) (hpan : ∀ v, xs (.pan v) = none) {Λ : Lam} {body : Code} (hΛ : Cw P R₀ Λ body)
    {id n : Nat} {T : sh.T → OT (Sum sh.T aQ)} (hT : ∀ s Q, wps te Φ Λ n body (sh.inj s) (cW sh xs Q) = (T s).wpR Q) :
    IF P R₀ (.block id (.loop body)) fun st K => sh.on st fun s => ∃ m e, aq T m s = some e ∧ K (abx id e.1.1) (e.1.2.inj e.2) := by
  intro R st a w K Q hx hst hl hK
  obtain ⟨s, R', ⟨m, e, hr, hk⟩, hx', hst'⟩ := Shape.GJ h0 hx hst hl
  refine wp_block (xv ?_)
  clear hl hst hx
  induction m generalizing s R' a w with
  | zero => cases hr
  | succ m ih =>
    simp only [aq] at hr
    cases ht : (T s).run with
    | none => rw [ht] at hr; cases hr
    | some o =>
      rw [ht] at hr
      have hw : wps te Φ Λ n body (sh.inj s) (cW sh xs (fun z => z = o)) := by
        rw [hT, OT.Qq]; exact OT.sH ht rfl
      refine Bc (IK (R₀ := R₀) hte hΦ hany hΛ hx' hst' hw ⟨?_, ?_, ?_, ?_⟩)
      · intro R1 st1 a1 w1 hx1 hst1 hk1
        obtain ⟨s', R2, g1, g4, g5⟩ := Shape.GJ h0 hx1 hst1 (hk1 : sh.on st1 _)
        subst g1
        exact ih a1 w1 s' R2 hr g4 g5
      · intro R1 st1 a1 w1 hx1 hst1 hk1
        simp only [cW] at hk1
        split at hk1
        · exact hk1.elim
        · rename_i sh' he
          obtain ⟨x, R2, g1, g2, g3⟩ := Shape.GJ (hxs _ sh' he) hx1 hst1 hk1
          subst g1
          cases hr
          exact hK.ret R2 _ a1 w1 g2 g3 hk
      · intro R1 st1 a1 w1 j hx1 hst1 hk1
        simp only [cW] at hk1
        split at hk1
        · exact hk1.elim
        · rename_i sh' he
          obtain ⟨x, R2, g1, g2, g3⟩ := Shape.GJ (hxs _ sh' he) hx1 hst1 hk1
          subst g1
          cases hr
          simp only [abx] at hk
          simp only [Exit.inBlock]
          by_cases e : j = id
          · subst e
            rw [Nat.beq_refl, cond_true] at hk
            simp only [if_true]
            exact hK.normal R2 _ a1 w1 g2 g3 hk
          · have hb : Nat.beq j id = false := by
              cases hq : Nat.beq j id
              · rfl
              · exact absurd (Nat.eq_of_beq_eq_true hq) e
            rw [hb, cond_false] at hk
            simp only [e, if_false]
            exact hK.exit R2 _ a1 w1 j g2 g3 hk
      · intro R1 st1 a1 w1 sv v hx1 hst1 hv hk1
        simp only [cW, hpan] at hk1
theorem bA {R₀ : Ctx} {sh : Shape} (h0 : Small R₀ sh.fixed) {xs : SE → Option Shape} (hxs : ∀ e s, xs e = some s → Small R₀ s.fixed) (hpan : ∀ v, xs (.pan v) = none) {Λ : Lam} {body : Code} (hΛ : Cw P R₀ Λ body)
    {id n : Nat} {T : sh.T → OT (Sum sh.T aQ)} (hT : ∀ s Q, wps te Φ Λ n body (sh.inj s) (cW sh xs Q) = (T s).wpR Q) {ok : sh.T → Bool} {f : sh.T → OT aQ}
    (hf : ∀ s, ok s = true → ∃ m e, aq T m s = some e ∧ (f s).run = some e) : IF P R₀ (.block id (.loop body)) (dw sh id ok f) := by
  intro R st a w K Q hx hst hl hK
  refine aeH hte hΦ hany h0 hxs hpan hΛ hT (id := id) R st a w K Q hx hst ?_ hK
  unfold dw at hl
  unfold Shape.on at hl ⊢
  split at hl
  · rename_i s hs
    cases ho : ok s
    · rw [ho] at hl; exact hl.elim
    · rw [ho] at hl
      obtain ⟨m, e, h1, h2⟩ := hf s ho
      obtain ⟨e', h3, h4⟩ := OT.Qp hl
      rw [h2] at h3
      cases h3
      rw [hs]
      exact ⟨m, e, h1, h4⟩
  · exact hl.elim
def fnK (S : ap) (sel : SV → Option az) (Q : S.Y → Prop) (v : SV) (hp : Hp) : Prop := match sel v with
  | some o => match (o.shape S.fixed).prj ⟨YF o.rs.length v, hp⟩ with
    | some y => Q ⟨o, y⟩
    | none => False
  | none => False
def aj8 (S : ap) : List az → (S.Y → Prop) → SV → Hp → Prop
  | [], _, _, _ => False
  | o :: r, Q, v, hp => match (o.shape S.fixed).prj ⟨YF o.rs.length v, hp⟩ with
    | some y => Q ⟨o, y⟩
    | none => aj8 S r Q v hp
omit hte hΦ hany in
theorem K4 {S : ap} {Q : S.Y → Prop} {v : SV} {hp : Hp} : ∀ {outs : List az}, aj8 S outs Q v hp → ∃ o ∈ outs, ∃ y, (o.shape S.fixed).prj ⟨YF o.rs.length v, hp⟩ = some y ∧ Q ⟨o, y⟩
  | [], h => h.elim
  | o :: r, h => by
    simp only [aj8] at h
    split at h
    · rename_i y hy
      exact ⟨o, List.mem_cons_self .., y, hy, h⟩
    · obtain ⟨o', h1, h2⟩ := K4 h
      exact ⟨o', List.mem_cons_of_mem _ h1, h2⟩
theorem aE {f : FuncId} {fn : Func} {c : Code} (hf : P.funcs[f]? = some fn) (hb : fn.body = some c) (hname : (fn.name == "runtime.NumGoroutine") = false) {S : ap} {k : Nat} (hk : S.chunks.all (fun c => Nat.blt c.1 k && !c.2.tL) = true) {Λ : Lam}
    (hΛ : ∀ R, Small R k → Cw P R Λ c) {n : Nat} {sel : SV → Option az} (hsel : ∀ v o, sel v = some o → o.pan = false) {pre : S.T → Bool} {F T : S.T → OT S.Y}
    (h : ∀ x Q, wpf te Φ Λ n fn (S.inp.inj x).tm (S.inp.inj x).hp (fnK S sel Q) (fun _ _ => False) = (T x).wpR Q)
    (hF : ∀ x oy, pre x = true → (F x).run = some oy → (T x).run = some oy) : ab P f (S.aK pre F) := by
  refine ajf hte hΦ hany hf hb hname hk hΛ (n := n) fun x oy hp hr => ⟨fnK S sel (fun z => z = oy), fun _ _ => False, ?_, fun v hp hq => ?_, fun _ _ hq => hq.elim⟩
  · rw [h, OT.Qq]; exact OT.sH (hF x oy hp hr) rfl
  · unfold fnK at hq
    split at hq
    · rename_i o ho
      split at hq
      · rename_i y hy
        subst hq
        exact ⟨hsel v o ho, hy⟩
      · exact hq.elim
    · exact hq.elim
theorem aeW {f : FuncId} {fn : Func} {c : Code} (hf : P.funcs[f]? = some fn) (hb : fn.body = some c) (hname : (fn.name == "runtime.NumGoroutine") = false) {S : ap} {k : Nat} (hk : S.chunks.all (fun c => Nat.blt c.1 k && !c.2.tL) = true) {Λ : Lam}
    (hΛ : ∀ R, Small R k → Cw P R Λ c) {n : Nat} {outs : List az} (hsel : (outs.all fun o => !o.pan) = true) {pre : S.T → Bool} {F T : S.T → OT S.Y}
    (h : ∀ x Q, wpf te Φ Λ n fn (S.inp.inj x).tm (S.inp.inj x).hp (aj8 S outs Q) (fun _ _ => False) = (T x).wpR Q)
    (hF : ∀ x oy, pre x = true → (F x).run = some oy → (T x).run = some oy) : ab P f (S.aK pre F) := by
  refine ajf hte hΦ hany hf hb hname hk hΛ (n := n) fun x oy hp hr => ⟨aj8 S outs (fun z => z = oy), fun _ _ => False, ?_, fun v hp hq => ?_, fun _ _ hq => hq.elim⟩
  · rw [h, OT.Qq]; exact OT.sH (hF x oy hp hr) rfl
  · obtain ⟨o, ho, y, hy, hQ⟩ := K4 hq
    subst hQ
    exact ⟨by have := List.all_eq_true.1 hsel o ho; simpa using this, hy⟩
end
end Sx
end Go.Proofs.Ytkedomfjjahjnaa

namespace Go.Proofs.Ytkedomfjjahjnaa
namespace Sx
open Go
def zeroCells : Ty → List Value
  | .bool => [.bool false]
  | .u64 => [fG 0]
  | .u8 => [vu8 0]
  | .int => [.int .i64 0]
  | .str => [.string ⟨#[]⟩]
  | .elem => [fG 0, fG 0, fG 0, fG 0]
  | .prod a b => zeroCells a ++ zeroCells b
  | .arr n t => (List.replicate n (zeroCells t)).flatten
  | .list _ => [.slice none 0 0]
theorem ck : ∀ t : Ty, (zeroCells t).length = t.size
  | .bool => rfl
  | .u64 => rfl
  | .u8 => rfl
  | .int => rfl
  | .str => rfl
  | .elem => rfl
  | .prod a b => by simp only [zeroCells, List.length_append, ck a, ck b, Ty.size]
  | .arr n t => by simp [zeroCells, ck t, Ty.size]
  | .list _ => rfl
theorem BN {c : List Value} {m : Nat} (hc : c.length = m) : ∀ (n i : Nat), i < n → seg (List.replicate n c).flatten (i * m) m = c
  | 0, _, h => by omega
  | n + 1, 0, _ => by
    simp only [seg, List.replicate_succ, List.flatten_cons, Nat.zero_mul, List.drop_zero, List.take_append, hc, Nat.sub_self, List.take_zero, List.append_nil]
    rw [← hc, List.take_length]
  | n + 1, i + 1, h => by
    have ih := BN hc n i (by omega)
    simp only [seg] at ih ⊢
    rw [List.replicate_succ, List.flatten_cons]
    have : (i + 1) * m = c.length + i * m := by rw [hc, Nat.add_mul]; omega
    rw [this, List.drop_append]
    simp only [Nat.add_sub_cancel_left]
    rw [List.drop_eq_nil_of_le (by omega), List.nil_append, ih]
theorem y6 {F : Nat → Option Obj} : ∀ t : Ty, Rep F t t.d (zeroCells t)
  | .bool => rfl
  | .u64 => rfl
  | .u8 => rfl
  | .int => ⟨rfl, by decide⟩
  | .str => ⟨rfl, by simp [Ty.d]⟩
  | .elem => rfl
  | .prod a b => by
    refine ⟨by simp only [zeroCells, List.length_append, ck], ?_, ?_⟩
    · have : (zeroCells (.prod a b)).take a.size = zeroCells a := by
        simp only [zeroCells]
        rw [← ck a, List.take_left]
      rw [this]; exact y6 a
    · have : (zeroCells (.prod a b)).drop a.size = zeroCells b := by
        simp only [zeroCells]
        rw [← ck a, List.drop_left]
      rw [this]; exact y6 b
  | .arr n t => by
    refine ⟨ck _, by simp [Ty.d], fun i hi => ?_⟩
    have h1 : (Ty.d (.arr n t)).getD i t.d = t.d := by
      simp [Ty.d, List.getD_eq_getElem?_getD, List.getElem?_replicate, hi]
    rw [h1]
    simp only [zeroCells]
    rw [BN (ck t) n i hi]
    exact y6 t
  | .list t => ⟨by simp [Ty.d], none, 0, rfl, by simp [Ty.d], .inl rfl⟩
def alu (P : Program) (T : TypeId) (d : TypeDesc) : TD → Bool
  | .struct fs => match d with
    | .struct fields => decide (fields.toList.map (fun f => (f.offset, f.type)) = fs) && fields.toList.all (fun f => !decide (f.name = "_")) && !P.stoodInHeld T &&
        (fields.toList.mapM (fun f => (P.info? f.type).map fun i => (f.offset, i.size))).isSome
    | _ => false
  | .array n e => match d with
    | .array n' e' => Nat.beq n n' && Nat.beq e e'
    | _ => false
  | .slice e => match d with
    | .slice e' => Nat.beq e e'
    | _ => false
  | .int k => match d with
    | .int k' => decide (k' = k)
    | _ => false
  | .bool => match d with
    | .bool => true
    | _ => false
  | .str => match d with
    | .string => true
    | _ => false
  | .ptr ms => match d with
    | .pointer _ => match P.info? T with
      | some i => ms.all fun nf => match i.methods.find? (fun q => q.name == nf.1) with
        | some m => m.path.toList.isEmpty && (match m.func with
          | some (f, b) => b && Nat.beq f nf.2
          | none => false)
        | none => false
      | none => false
    | _ => false
  | .iface => match d with
    | .interface _ => true
    | _ => false
  | .other => match d with
    | .struct _ => false
    | .array .. => false
    | _ => true
theorem ak {P : Program} {T : TypeId} {ti : TI} (h1 : (P.info? T).isSome = true) (h4 : ((P.info? T).get h1).zero.isSome = true) (h10 : (P.underlying T).isSome = true)
    (hs : Nat.beq ((P.info? T).get h1).size ti.size = true) (hb : Nat.beq ((P.info? T).get h1).bytes ti.bytes = true)
    (hz : (((P.info? T).get h1).zero.get h4).cells.toList.map Ay = ti.zero) (hc : ((((P.info? T).get h1).zero.get h4).cells.toList.all Value.oneCell') = true)
    (hn : Nat.beq (((P.info? T).get h1).zero.get h4).cells.size ti.size = true) (h8 : Nat.ble ti.size 16777216 = true) (h9 : (ti.desc.agg || Nat.beq ti.size 1) = true)
    (hd : alu P T ((P.underlying T).get h10) ti.desc = true)
    (ht : match ti.ty with
      | none => True
      | some t => Nat.beq t.size ti.size = true ∧ (((P.info? T).get h1).zero.get h4).cells.toList = zeroCells t ∧ (!ti.desc.agg || !P.eqGuardType P.depth T) = true) : bN P T ti := by
  have e1 : P.info? T = some ((P.info? T).get h1) := (Option.some_get h1).symm
  have e4 : ((P.info? T).get h1).zero = some (((P.info? T).get h1).zero.get h4) := (Option.some_get h4).symm
  refine ⟨⟨_, _, e1, Nat.eq_of_beq_eq_true hs, Nat.eq_of_beq_eq_true hb, e4, hz, Nat.eq_of_beq_eq_true hn, fun u hu => List.all_eq_true.1 hc u hu⟩, Nat.le_of_ble_eq_true h8, fun ha => ?_, ⟨_, (Option.some_get h10).symm, ?_⟩, fun t hty => ?_⟩
  · rw [ha, Bool.false_or] at h9
    exact Nat.eq_of_beq_eq_true h9
  · generalize (P.underlying T).get h10 = d at hd
    cases hdd : ti.desc <;> rw [hdd] at hd <;> simp only [alu] at hd <;> (try dsimp only)
    case struct fs =>
      split at hd
      · rename_i fields
        simp only [Bool.and_eq_true, decide_eq_true_eq, List.all_eq_true, Bool.not_eq_true', decide_eq_false_iff_not] at hd
        exact ⟨fields, rfl, hd.1.1.1, hd.1.1.2, hd.1.2, hd.2⟩
      · cases hd
    case array n e =>
      split at hd
      · rw [Bool.and_eq_true] at hd
        rw [Nat.eq_of_beq_eq_true hd.1, Nat.eq_of_beq_eq_true hd.2]
      · cases hd
    case slice e =>
      split at hd
      · rw [Nat.eq_of_beq_eq_true hd]
      · cases hd
    case int k =>
      split at hd
      · rw [of_decide_eq_true hd]
      · cases hd
    case bool =>
      split at hd
      · rfl
      · cases hd
    case str =>
      split at hd
      · rfl
      · cases hd
    case ptr ms =>
      split at hd
      · refine ⟨⟨_, rfl⟩, ?_⟩
        split at hd
        · rename_i i hi
          intro nf hnf
          have hq := List.all_eq_true.1 hd nf hnf
          split at hq
          · rename_i m hm
            rw [Bool.and_eq_true] at hq
            refine ⟨i, m, hi, hm, ?_, ?_⟩
            · apply Array.ext'
              simpa using hq.1
            · have h2 := hq.2
              split at h2
              · rename_i f b hf
                rw [Bool.and_eq_true] at h2
                rw [hf, Nat.eq_of_beq_eq_true h2.2, h2.1]
              · cases h2
          · cases hq
        · cases hd
      · cases hd
    case iface =>
      split at hd
      · exact ⟨_, rfl⟩
      · cases hd
    case other =>
      cases d <;> first | trivial | (cases hd; done)
  · rw [hty] at ht
    obtain ⟨t1, t2, t3⟩ := ht
    refine ⟨Nat.eq_of_beq_eq_true t1, fun F z hz' => ?_, fun ha => ?_⟩
    · rw [e1] at hz'
      simp only [Option.bind_some] at hz'
      rw [e4] at hz'
      cases hz'
      rw [t2]
      exact y6 t
    · rw [ha, Bool.not_true, Bool.false_or, Bool.not_eq_true'] at t3
      exact t3
def akB : TE := fun _ => none
def aw (T : TypeId) (ti : TI) (te : TE) : TE := fun x => cond (Nat.beq x T) (some ti) (te x)
theorem adw {P : Program} : jZ P akB := fun _ _ h => by cases h
theorem ae {P : Program} {T : TypeId} {ti : TI} {te : TE} (h : bN P T ti) (ht : jZ P te) : jZ P (aw T ti te) := fun x t hx => by
  unfold aw at hx
  cases hb : Nat.beq x T
  · rw [hb] at hx; exact ht x t hx
  · rw [hb] at hx
    cases hx
    rw [Nat.eq_of_beq_eq_true hb]
    exact h
def abA : Env := fun _ => none
def aA (f : FuncId) (s : cK) (Φ : Env) : Env := fun x => cond (Nat.beq x f) (some s) (Φ x)
theorem abz {P : Program} : aW P abA := fun _ _ h => by cases h
theorem ag {P : Program} {f : FuncId} {s : cK} {Φ : Env} (h : ab P f s) (hΦ : aW P Φ) : aW P (aA f s Φ) := fun x t hx => by
  unfold aA at hx
  cases hb : Nat.beq x f
  · rw [hb] at hx; exact hΦ x t hx
  · rw [hb] at hx
    cases hx
    rw [Nat.eq_of_beq_eq_true hb]
    exact h
theorem Pf : av abA := fun _ _ h => by cases h
theorem ac {f : FuncId} {s : cK} {Φ : Env} (h : aL s) (hΦ : av Φ) : av (aA f s Φ) := fun x t hx => by
  unfold aA at hx
  cases hb : Nat.beq x f
  · rw [hb] at hx; exact hΦ x t hx
  · rw [hb] at hx
    cases hx
    exact h
end Sx
end Go.Proofs.Ytkedomfjjahjnaa

namespace Go.Proofs.Ytkedomfjjahjnaa
namespace Sx
open Go
def ku (l : List (Nat × Shape)) (r : Option Shape) : SE → Option Shape
  | .exit n => (l.find? fun p => Nat.beq p.1 n).map (·.2)
  | .ret => r
  | _ => none
theorem aH {l : List (Nat × Shape)} {r : Option Shape} {k : Nat} {R : Ctx} (hl : (l.all fun p => Nat.beq p.2.fixed k) = true) (hr : (r.all fun s => Nat.beq s.fixed k) = true) (hR : Small R k) :
    ∀ e s, ku l r e = some s → Small R s.fixed := by
  intro e s h
  cases e with
  | exit n =>
    simp only [ku] at h
    cases hf : l.find? fun p => Nat.beq p.1 n with
    | none => rw [hf] at h; cases h
    | some p =>
      rw [hf] at h
      cases h
      rw [Nat.eq_of_beq_eq_true (List.all_eq_true.1 hl p (List.mem_of_find?_eq_some hf))]
      exact hR
  | ret =>
    simp only [ku] at h
    subst h
    have e : s.fixed = k := Nat.eq_of_beq_eq_true (by simpa using hr)
    rw [e]
    exact hR
  | normal => cases h
  | pan v => cases h
theorem aX {l : List (Nat × Shape)} {r : Option Shape} (v : SV) : ku l r (.pan v) = none := rfl
section
variable {σ ε : Type} {T : σ → OT (Sum σ ε)}
theorem aO {s s' : σ} {m : Nat} {e : ε} (h : (T s).run = some (.inl s')) (h2 : aq T m s' = some e) : aq T (m + 1) s = some e := by
  simp only [aq, h]; exact h2
theorem aT {s : σ} {e : ε} (h : (T s).run = some (.inr e)) : aq T 1 s = some e := by
  simp only [aq, h]
theorem Bb (st : Nat → σ) (n : Nat) {e : ε} (h : ∀ k, k < n → (T (st k)).run = some (.inl (st (k + 1)))) (hn : (T (st n)).run = some (.inr e)) : ∀ j k, k + j = n → aq T (j + 1) (st k) = some e
  | 0, k, hk => by
    have : k = n := by omega
    subst this
    exact aT hn
  | j + 1, k, hk => aO (h k (by omega)) (Bb st n h hn j (k + 1) (by omega))
theorem OH (st : Nat → σ) (n : Nat) {e : ε} (h : ∀ k, k < n → (T (st k)).run = some (.inl (st (k + 1)))) (hn : (T (st n)).run = some (.inr e)) (k : Nat) (hk : k ≤ n) : ∃ m, aq T m (st k) = some e :=
  ⟨n - k + 1, Bb st n h hn (n - k) k (by omega)⟩
def upto {β : Type} (f : Nat → β → β) (b : β) : Nat → β
  | 0 => b
  | k + 1 => f k (upto f b k)
theorem bI {β : Type} (mk : Nat → β → σ) (step : Nat → β → β) (fin : β → ε) (n : Nat) (b0 : β) (P : Nat → β → Prop) (h0 : P 0 b0)
    (hs : ∀ k b, k < n → P k b → (T (mk k b)).run = some (.inl (mk (k + 1) (step k b))) ∧ P (k + 1) (step k b))
    (he : ∀ b, P n b → (T (mk n b)).run = some (.inr (fin b))) : (∃ m, aq T m (mk 0 b0) = some (fin (upto step b0 n))) ∧ P n (upto step b0 n) := by
  have hP : ∀ k, k ≤ n → P k (upto step b0 k) := by
    intro k
    induction k with
    | zero => exact fun _ => h0
    | succ k ih => exact fun hk => (hs k _ (by omega) (ih (by omega))).2
  refine ⟨?_, hP n (Nat.le_refl _)⟩
  exact OH (fun k => mk k (upto step b0 k)) n (fun k hk => (hs k _ hk (hP k (by omega))).1) (he _ (hP n (Nat.le_refl _))) 0 (Nat.zero_le _)
end
def tab {α : Type} (x : List α) (n : Nat) (d : α) : List α := (List.range n).map fun i => x.getD i d
def lay {α : Type} (x y : List α) (n : Nat) (d : α) : List α := (List.range n).foldl (fun a i => a.set i (y.getD i d)) x
theorem wj {α : Type} {x y : List α} {d : α} : ∀ n, (lay x y n d).length = x.length
  | 0 => rfl
  | n + 1 => by
    have := wj (x := x) (y := y) (d := d) n
    simp only [lay, List.range_succ, List.foldl_append, List.foldl_cons, List.foldl_nil, List.length_set] at this ⊢
    exact this
theorem aaz {α : Type} {x y : List α} {d : α} : ∀ n i, n ≤ x.length → i < x.length → (lay x y n d)[i]? = if i < n then some (y.getD i d) else x[i]?
  | 0, i, _, _ => by simp [lay]
  | n + 1, i, h, hi => by
    have ih := aaz (x := x) (y := y) (d := d) n i (by omega) hi
    have hl := wj (x := x) (y := y) (d := d) n
    simp only [lay] at ih hl
    simp only [lay, List.range_succ, List.foldl_append, List.foldl_cons, List.foldl_nil]
    by_cases e : n = i
    · subst e
      rw [List.getElem?_set_self (by omega), if_pos (by omega)]
    · rw [List.getElem?_set_ne e, ih]
      by_cases h1 : i < n
      · rw [if_pos h1, if_pos (by omega)]
      · rw [if_neg h1, if_neg (by omega)]
theorem aaA {α : Type} {x y : List α} {n : Nat} {d : α} (hx : x.length = n) (hy : y.length = n) : lay x y n d = y := by
  apply List.ext_getElem?
  intro i
  by_cases hi : i < n
  · rw [aaz n i (by omega) (by omega), if_pos hi, List.getD_eq_getElem?_getD, List.getElem?_eq_getElem (by omega)]
    rfl
  · rw [List.getElem?_eq_none (by rw [wj]; omega), List.getElem?_eq_none (by omega)]
theorem OT.j4 {α : Type} {a : α} : (OT.ok a).run = some a := rfl
theorem OT.ao {α : Type} {b : Bool} {x y : OT α} (h : b = true) : (OT.br b x y).run = x.run := by rw [h]; rfl
theorem OT.ax {α : Type} {b : Bool} {x y : OT α} (h : b = false) : (OT.br b x y).run = y.run := by rw [h]; rfl
def gd {α : Type} : List Bool → OT α → OT α
  | [], x => x
  | b :: r, x => .br b (gd r x) .fail
theorem ai {α : Type} {x : OT α} : ∀ {bs : List Bool}, bs.all (fun b => b) = true → (gd bs x).run = x.run
  | [], _ => rfl
  | b :: r, h => by
    rw [List.all_cons, Bool.and_eq_true] at h
    exact (OT.ao h.1).trans (ai h.2)
theorem bC {n : Int} (h : -9223372036854775808 ≤ n ∧ n ≤ 9223372036854775807) : inR n = true := by simp [inR, h.1, h.2]
theorem bU {k : Int} {n : Nat} (h : 0 ≤ k ∧ k < (n : Int)) : inB k n = true := by simp [inB, h.1, h.2]
end Sx
end Go.Proofs.Ytkedomfjjahjnaa

namespace Go.Proofs.Ytkedomfjjahjnaa
namespace Sx
open Go Go.RowKit
def eO (w : World) : Ctx := ⟨fun b => w.heap[b]?, ⟨fun _ => none, w⟩, fun _ => none, ael⟩
theorem adA (w : World) : cX (eO w) w :=
  ⟨fun _ _ h => h, (fun _ _ h => by cases h), (fun c ch h => by cases h), (fun c c' ch ch' L L' h => by cases h), fun _ _ _ => rfl, ⟨rfl, rfl, rfl⟩⟩
theorem MS {w w' : World} {R' : Ctx} {u : List (Nat × Ch)} (h : eo (eO w) R' w' u) : Below w.heap.size w w' := by
  have he := h.mem.env
  rw [h.ext.U] at he
  have hb : ∀ k, k < w.heap.size → w'.heap[k]? = w.heap[k]? := fun k hk => by
    have h1 : w.heap[k]? = some w.heap[k] := by simp [hk]
    rw [h.mem.F k _ (h.ext.F k _ h1), h1]
  refine ⟨he.1, he.2.2, he.2.1, ?_, hb⟩
  rcases Nat.lt_or_ge w'.heap.size w.heap.size with hl | hl
  · have := hb _ hl
    simp [hl] at this
  · exact hl
theorem aaC {P : Program} {f : FuncId} {s : cK} (h : ab P f s) (hfn : ∃ fn, P.funcs[f]? = some fn ∧ (fn.name == "runtime.NumGoroutine") = false ∧ fn.body.isNone = false) {w : World} {args : List SV} {vs : List Value} {u : List (Nat × Ch)} (hr : SV.bK (eO w) args vs)
    (ht : (s.f 0 args ael).run = some (.ret ⟨.bool true, u⟩)) : Calls P f vs.toArray w fun e w' => e = .returned (.bool true) ∧ Below w.heap.size w w' := by
  have hc : Calls P f vs.toArray w (TB (eO w) (.ret ⟨.bool true, u⟩)) := by
    rcases h.calls (eO w) w 0 args vs _ (adA w) hr ht with ⟨_, _, _, _, hc⟩ | ⟨v, w', hv, _⟩
    · exact hc
    · exfalso
      obtain ⟨fn, f1, f2, f3⟩ := hfn
      have f2' : ¬ fn.name = "runtime.NumGoroutine" := by simpa using f2
      have f3' : ¬ fn.body = none := fun e => by rw [e] at f3; simp at f3
      simp [callFunc, f1, f2', f3'] at hv
  refine hc.mono fun e w' hp => ?_
  obtain ⟨v, R', rfl, ha, hv⟩ := hp
  simp only [SV.rel] at hv
  subst hv
  exact ⟨rfl, MS ha⟩
end Sx
end Go.Proofs.Ytkedomfjjahjnaa

namespace Go.Proofs.Ytkedomfjjahjnaa
namespace Sx
open Go Go.RowKit
def I4 (te : TE) (T : TypeId) (n : Nat) : Bool := match te T with
  | some ei => Nat.beq ei.size n
  | none => false
def vR (go : TypeId → Ty → Bool) (te : TE) : Nat → List (Nat × TypeId) → Ty → Bool
  | o, [(p, T)], y => Nat.beq o p && (I4 te T y.size && go T y)
  | o, (p, T) :: q :: r, .prod a b => Nat.beq o p && (I4 te T a.size && (go T a && vR go te (o + a.size) (q :: r) b))
  | _, _, _ => false
def tq (te : TE) : Nat → TypeId → Ty → Bool
  | 0, _, _ => false
  | n + 1, T, y => match te T with
    | none => false
    | some ti => match ti.desc, y with
      | .bool, .bool => true
      | .int .u64, .u64 => true
      | .int .u8, .u8 => true
      | .int .i64, .int => true
      | .str, .str => true
      | .array m e, .elem => (match te e with
        | some ei => (match ei.desc with | .int .u64 => true | _ => false) && Nat.beq ei.size 1
        | none => false) && (Nat.beq m 4 && Nat.beq ti.size 4)
      | .array m e, .arr k t => Nat.beq m k && (I4 te e t.size && (Nat.beq ti.size (k * t.size) && tq te n e t))
      | .slice e, .list t => (match te e with
        | some ei => Nat.beq ei.size t.size && (Nat.blt 0 ei.size && Nat.blt 0 ei.bytes)
        | none => false) && tq te n e t
      | .struct fs, y => Nat.beq ti.size y.size && vR (tq te n) te 0 fs y
      | _, _ => false
theorem we {α β : Type} {f : α → Option β} : ∀ {l : List α} {ys : List β}, l.mapM f = some ys → ys.length = l.length ∧ ∀ (i : Nat) (h : i < l.length) (h' : i < ys.length), f l[i] = some ys[i]
  | [], ys, h => by
    simp only [List.mapM_nil, Option.pure_def, Option.some.injEq] at h
    subst h
    exact ⟨rfl, fun i hi => absurd hi (Nat.not_lt_zero _)⟩
  | x :: l, ys, h => by
    simp only [List.mapM_cons, Option.bind_eq_bind, Option.bind_eq_some_iff, Option.pure_def, Option.some.injEq] at h
    obtain ⟨y, h1, r, h2, rfl⟩ := h
    obtain ⟨h3, h4⟩ := we h2
    refine ⟨by simp [h3], fun i hi hi' => ?_⟩
    cases i with
    | zero => exact h1
    | succ i => exact h4 i (by simpa using hi) (by simpa using hi')
theorem rL {α : Type} {d : α} {Q : Nat → α → Prop} : ∀ (n : Nat), (∀ i, i < n → ∃ x, Q i x) → ∃ l : List α, l.length = n ∧ ∀ i, i < n → Q i (l.getD i d)
  | 0, _ => ⟨[], rfl, fun i h => absurd h (Nat.not_lt_zero _)⟩
  | n + 1, h => by
    obtain ⟨l, h1, h2⟩ := rL n fun i hi => h i (by omega)
    obtain ⟨x, hx⟩ := h n (by omega)
    refine ⟨l ++ [x], by simp [h1], fun i hi => ?_⟩
    rcases Nat.lt_or_ge i n with hi' | hi'
    · have := h2 i hi'
      rwa [List.getD_eq_getElem?_getD, List.getElem?_append_left (by omega), ← List.getD_eq_getElem?_getD]
    · have : i = n := by omega
      subst this
      rw [List.getD_eq_getElem?_getD, List.getElem?_append_right (by omega), h1]
      simpa using hx
theorem HU {w : World} {a : Addr} {n : Nat} {cs : List Value} (hn : 0 < n) (h : w.cells? 0 a n = some cs) :
    ∃ arr E fz, w.heap[a.block]? = some (.cells arr E fz) ∧ a.spot = none ∧ a.off + n ≤ arr.size ∧ cs = seg arr.toList a.off n := by
  unfold World.cells? at h
  rw [if_pos (Nat.zero_le _)] at h
  obtain ⟨h1, h2⟩ := we h
  rw [List.length_range] at h1
  have hat : ∀ i (hi : i < n), w.cell? (a.add i) = some (cs[i]'(by omega)) := fun i hi => by
    have := h2 i (by simpa using hi) (by omega)
    simpa using this
  have h0 := hat 0 hn
  have e0 : a.add 0 = a := rfl
  rw [e0] at h0
  unfold World.cell? at h0
  split at h0
  · rename_i arr E fz hb
    split at h0
    · cases h0
    · rename_i hs
      have hs' : a.spot = none := by simpa using hs
      have hget : ∀ i (hi : i < n), arr[a.off + i]? = some (cs[i]'(by omega)) := fun i hi => by
        have := hat i hi
        unfold World.cell? Addr.add at this
        by_cases hi0 : i = 0
        · subst hi0
          simpa [hb, hs'] using this
        · rw [if_neg hi0] at this
          simpa [hb] using this
      have hle : a.off + n ≤ arr.size := by
        have := (Array.getElem?_eq_some_iff.1 (hget (n - 1) (by omega))).1
        omega
      refine ⟨arr, E, fz, hb, hs', hle, ?_⟩
      apply List.ext_getElem
      · rw [eP (by simpa using hle)]; exact h1
      · intro i hi hi'
        obtain ⟨hlt, he⟩ := Array.getElem?_eq_some_iff.1 (hget i (by omega))
        simp only [seg, List.getElem_take, List.getElem_drop, Array.getElem_toList]
        exact he.symm
  · cases h0
section
variable {H : Type} {enc : TypeId × Value → H} {P : Program} {te : TE} (hte : jZ P te) {w : World} {sp : Nat → Bool}
abbrev Hm (w : World) : Nat → Option Obj := fun b => w.heap[b]?
include hte
theorem gO {T : TypeId} {ti : TI} (h : te T = some ti) : P.cellsOf T = ti.size := by
  obtain ⟨i, z, h1, h2, _⟩ := (hte T ti h).aj3
  unfold Program.cellsOf
  rw [h1]
  exact h2
theorem Fv {T : TypeId} {ti : TI} (h : te T = some ti) : P.bytesOf T = ti.bytes := by
  obtain ⟨i, z, h1, _, h2, _⟩ := (hte T ti h).aj3
  unfold Program.bytesOf
  rw [h1]
  exact h2
omit hte in
theorem qU {T : TypeId} {n : Nat} (h : I4 te T n = true) : ∃ ti, te T = some ti ∧ ti.size = n := by
  unfold I4 at h
  split at h
  · rename_i ei he
    exact ⟨ei, he, Nat.eq_of_beq_eq_true h⟩
  · cases h
omit hte in
theorem kw {e : TypeId} : ∀ {l : List (DataW H)} {d : DataW H}, d ∈ l → ∀ n ∈ d.weights P e, n ∈ DataW.weightsAll P e l
  | x :: l, d, h, n, hn => by
    simp only [DataW.weightsAll, List.mem_append]
    rcases List.mem_cons.1 h with rfl | h
    · exact .inl hn
    · exact .inr (kw h n hn)
theorem E8 {go : TypeId → Ty → Bool} {fuel : Nat} {cs : List Value}
    (hgo : ∀ T y c d ps, go T y = true → c.length = y.size → DataW.trod enc P w 0 sp true fuel T c = some (d, ps) → (∀ n ∈ d.weights P T, n ≤ reachBytes) → ∃ x, Rep (Hm w) y x c) :
    ∀ (fl : List Field) (o : Nat) (y : Ty) (xs : List (DataW H × List MemPlace)), vR go te o (fl.map fun f => (f.offset, f.type)) y = true → o + y.size = cs.length →
      fl.mapM (fun f => DataW.trod enc P w 0 sp true fuel f.type ((cs.drop f.offset).take (P.cellsOf f.type))) = some xs →
      (∀ n ∈ DataW.weightsEach P (fl.map (·.type)) (xs.map (·.1)), n ≤ reachBytes) → ∃ x, Rep (Hm w) y x (cs.drop o)
  | [], o, y, xs, h, _, _, _ => by simp [vR] at h
  | [f], o, y, xs, h, hl, hm, hw => by
    simp only [List.map_cons, List.map_nil, vR, Bool.and_eq_true] at h
    obtain ⟨h1, h2, h3⟩ := h
    have h1 := Nat.eq_of_beq_eq_true h1
    obtain ⟨ti, ht, hs⟩ := qU h2
    simp only [List.mapM_cons, List.mapM_nil, Option.bind_eq_bind, Option.bind_eq_some_iff, Option.pure_def, Option.some.injEq] at hm
    obtain ⟨⟨d, ps⟩, e1, r, rfl, rfl⟩ := hm
    rw [gO hte ht, hs, ← h1] at e1
    have hlen : (cs.drop o).length = y.size := by simp; omega
    rw [List.take_of_length_le (by omega)] at e1
    exact hgo _ _ _ _ _ h3 hlen e1 fun n hn => hw n (by simp only [List.map_cons, List.map_nil, DataW.weightsEach, List.append_nil]; exact hn)
  | f :: g :: r, o, y, xs, h, hl, hm, hw => by
    cases y <;> simp only [List.map_cons, vR, Bool.and_eq_true] at h <;> try (cases h; done)
    rename_i a b
    obtain ⟨h1, h2, h3, h4⟩ := h
    have h1 := Nat.eq_of_beq_eq_true h1
    obtain ⟨ti, ht, hs⟩ := qU h2
    rw [List.mapM_cons] at hm
    simp only [Option.bind_eq_bind, Option.bind_eq_some_iff, Option.pure_def, Option.some.injEq] at hm
    obtain ⟨⟨d, ps⟩, e1, q, e2, rfl⟩ := hm
    rw [gO hte ht, hs, ← h1] at e1
    simp only [Ty.size] at hl
    obtain ⟨x1, k1⟩ := hgo _ _ _ _ _ h3 (by simp; omega) e1 fun n hn => hw n (by simp only [List.map_cons, DataW.weightsEach, List.mem_append]; exact .inl hn)
    obtain ⟨x2, k2⟩ := E8 hgo (g :: r) (o + a.size) b q h4 (by omega) e2 fun n hn => hw n (by simp only [List.map_cons, DataW.weightsEach, List.mem_append] at hn ⊢; exact .inr hn)
    refine ⟨(x1, x2), ?_⟩
    simp only [Rep]
    refine ⟨by simp; omega, k1, ?_⟩
    rw [List.drop_drop]
    exact k2
theorem acz {go : TypeId → Ty → Bool} {fuel : Nat} {cs : List Value} {e : TypeId} {t : Ty} {ei : TI} (he : te e = some ei) (hs : ei.size = t.size)
    (hgo : ∀ c d ps, c.length = t.size → DataW.trod enc P w 0 sp true fuel e c = some (d, ps) → (∀ n ∈ d.weights P e, n ≤ reachBytes) → ∃ x, Rep (Hm w) t x c) {m : Nat} (hl : cs.length = m * t.size) {xs : List (DataW H × List MemPlace)}
    (hm : ((List.range m).mapM fun i => DataW.trod enc P w 0 sp true fuel e ((cs.drop (i * P.cellsOf e)).take (P.cellsOf e))) = some xs)
    (hw : ∀ n ∈ DataW.weightsAll P e (xs.map (·.1)), n ≤ reachBytes) : ∀ i, i < m → ∃ x, Rep (Hm w) t x (seg cs (i * t.size) t.size) := fun i hi => by
  obtain ⟨h1, h2⟩ := we hm
  rw [List.length_range] at h1
  have := h2 i (by simpa using hi) (by omega)
  rw [List.getElem_range, gO hte he, hs] at this
  have hle : (i + 1) * t.size ≤ m * t.size := Nat.mul_le_mul_right _ hi
  rw [Nat.succ_mul] at hle
  refine hgo _ (xs[i]'(by omega)).1 (xs[i]'(by omega)).2 (eP (by omega)) this fun n hn => hw n (kw (List.mem_map.2 ⟨xs[i]'(by omega), List.getElem_mem _, rfl⟩) n hn)
omit hte in
theorem agE {fuel : Nat} {e : TypeId} {c : Value} {d : DataW H} {ps : List MemPlace} (hu : P.underlying e = some (.int .u64)) (hr : DataW.trod enc P w 0 sp true fuel e [c] = some (d, ps)) : ∃ x : UInt64, c = fG x := by
  cases fuel with
  | zero => simp [DataW.trod] at hr
  | succ fuel =>
    simp only [DataW.trod, hu] at hr
    cases c <;> simp only at hr <;> try (cases hr; done)
    rename_i k' n
    split at hr
    · rename_i hk
      obtain ⟨rfl, hwf⟩ := hk
      have := bounds_u64 hwf
      refine ⟨UInt64.ofNat n.toNat, ?_⟩
      simp only [fG, UInt64.toNat_ofNat']
      congr 1
      omega
    · cases hr
theorem sL : ∀ (k fuel : Nat) (T : TypeId) (y : Ty) (cs : List Value) (d : DataW H) (ps : List MemPlace), tq te k T y = true → cs.length = y.size → DataW.trod enc P w 0 sp true fuel T cs = some (d, ps) →
    (∀ n ∈ d.weights P T, n ≤ reachBytes) → ∃ x, Rep (Hm w) y x cs
  | 0, _, _, _, _, _, _, h, _, _, _ => by simp [tq] at h
  | k + 1, 0, _, _, _, _, _, _, _, h, _ => by simp [DataW.trod] at h
  | k + 1, fuel + 1, T, y, cs, d, ps, h, hl, hr, hw => by
    simp only [tq] at h
    split at h
    · cases h
    · rename_i ti hT
      obtain ⟨ds, hu, hd⟩ := (hte T ti hT).desc
      have hcells := gO hte hT
      simp only [DataW.trod, hu] at hr
      split at h
      · -- bool
        rename_i he
        rw [he] at hd
        simp only at hd
        subst hd
        match cs, hl with
        | [c], hl1 =>
          cases c <;> simp only [Option.some.injEq] at hr <;> try (cases hr; done)
          exact ⟨_, rfl⟩
      · rename_i he
        rw [he] at hd
        simp only at hd
        subst hd
        match cs, hl with
        | [c], hl1 =>
          cases c <;> simp only at hr <;> try (cases hr; done)
          rename_i k' n
          split at hr
          · rename_i hk
            obtain ⟨rfl, hwf⟩ := hk
            have := bounds_u64 hwf
            refine ⟨UInt64.ofNat n.toNat, ?_⟩
            simp only [Rep, fG, UInt64.toNat_ofNat']
            congr 2
            omega
          · cases hr
      · rename_i he
        rw [he] at hd
        simp only at hd
        subst hd
        match cs, hl with
        | [c], hl1 =>
          cases c <;> simp only at hr <;> try (cases hr; done)
          rename_i k' n
          split at hr
          · rename_i hk
            obtain ⟨rfl, hwf⟩ := hk
            have := bounds_u8 hwf
            refine ⟨UInt8.ofNat n.toNat, ?_⟩
            simp only [Rep, vu8, UInt8.toNat_ofNat']
            congr 2
            omega
          · cases hr
      · rename_i he
        rw [he] at hd
        simp only at hd
        subst hd
        match cs, hl with
        | [c], hl1 =>
          cases c <;> simp only at hr <;> try (cases hr; done)
          rename_i k' n
          split at hr
          · rename_i hk
            obtain ⟨rfl, hwf⟩ := hk
            have := bounds_i64 hwf
            exact ⟨n, rfl, bC (by omega)⟩
          · cases hr
      · rename_i he
        rw [he] at hd
        simp only at hd
        subst hd
        match cs, hl with
        | [c], hl1 =>
          cases c <;> simp only at hr <;> try (cases hr; done)
          rename_i s
          split at hr
          · cases hr
            refine ⟨s.data.toList, ?_⟩
            have := hw s.data.toList.length (by simp [DataW.weights])
            unfold reachBytes at this
            simp only [Rep]
            exact ⟨trivial, by unfold cm; omega⟩
          · cases hr
      · -- four words
        rename_i m e he
        rw [he] at hd
        simp only at hd
        subst hd
        simp only [Bool.and_eq_true] at h
        obtain ⟨h1, h2, h3⟩ := h
        split at h1
        · rename_i ei hei
          rw [Bool.and_eq_true] at h1
          obtain ⟨h4, h5⟩ := h1
          split at h4
          · rename_i hed
            have h2 := Nat.eq_of_beq_eq_true h2
            have h5 := Nat.eq_of_beq_eq_true h5
            subst h2
            obtain ⟨de, hue, hde⟩ := (hte e ei hei).desc
            rw [hed] at hde
            simp only at hde
            subst hde
            have hl4 : cs.length = 4 := hl
            simp only at hr
            rw [if_pos (by rw [hcells]; rw [hl4]; exact (Nat.eq_of_beq_eq_true h3).symm)] at hr
            simp only [Option.map_eq_some_iff] at hr
            obtain ⟨xs, hm, hx⟩ := hr
            obtain ⟨m1, m2⟩ := we hm
            rw [List.length_range] at m1
            match cs, hl4 with
            | [c0, c1, c2, c3], hl1 =>
              have key : ∀ i (hi : i < 4), ∃ x : UInt64, [c0, c1, c2, c3][i] = fG x := fun i hi => by
                have := m2 i (by simpa using hi) (by omega)
                rw [List.getElem_range, gO hte hei, h5, Nat.mul_one] at this
                have e2 : ([c0, c1, c2, c3].drop i).take 1 = [[c0, c1, c2, c3][i]] := by
                  rw [List.drop_eq_getElem_cons (by simpa using hi)]
                  rfl
                rw [e2] at this
                exact agE hue this
              obtain ⟨x0, k0⟩ := key 0 (by omega)
              obtain ⟨x1, k1⟩ := key 1 (by omega)
              obtain ⟨x2, k2⟩ := key 2 (by omega)
              obtain ⟨x3, k3⟩ := key 3 (by omega)
              simp only [List.getElem_cons_zero, List.getElem_cons_succ] at k0 k1 k2 k3
              exact ⟨⟨x0, x1, x2, x3⟩, by simp only [Rep, k0, k1, k2, k3]⟩
          · cases h4
        · cases h1
      · -- an array
        rename_i m e k' t he
        rw [he] at hd
        simp only at hd
        subst hd
        simp only [Bool.and_eq_true] at h
        obtain ⟨h1, h2, h3, h4⟩ := h
        have h1 := Nat.eq_of_beq_eq_true h1
        subst h1
        obtain ⟨ei, hei, hs⟩ := qU h2
        have hl' : cs.length = m * t.size := hl
        simp only at hr
        rw [if_pos (by rw [hcells, hl']; exact (Nat.eq_of_beq_eq_true h3).symm)] at hr
        simp only [Option.map_eq_some_iff] at hr
        obtain ⟨xs, hm, hx⟩ := hr
        cases hx
        have key := acz (go := fun _ _ => true) hte hei hs (fun c d ps h1 h2 h3 => sL k fuel e t c d ps h4 h1 h2 h3) hl' hm (fun n hn => hw n (by simp only [DataW.weights, hu]; exact hn))
        obtain ⟨l, l1, l2⟩ := rL (d := t.d) m key
        exact ⟨l, hl', l1, l2⟩
      · -- a slice
        rename_i e t he
        rw [he] at hd
        simp only at hd
        subst hd
        rw [Bool.and_eq_true] at h
        obtain ⟨h1, h4⟩ := h
        split at h1
        · rename_i ei hei
          simp only [Bool.and_eq_true] at h1
          obtain ⟨h1, h2, h3⟩ := h1
          have hs := Nat.eq_of_beq_eq_true h1
          have hpos := cC h2
          have hby := cC h3
          match cs, hl with
          | [c], hl1 =>
            cases c <;> try (exfalso; simp at hr; done)
            rename_i ad len cap
            cases ad with
            | none =>
              rcases len with _ | len
              · rcases cap with _ | cap
                · exact ⟨[], by simp only [Rep]; exact ⟨Nat.zero_le _, none, 0, rfl, Nat.le_refl _, .inl trivial⟩⟩
                · cases hr
              · cases hr
            | some a =>
              simp only at hr
              split at hr
              · rename_i hcond
                obtain ⟨_, hlc, _⟩ := hcond
                simp only [Option.bind_eq_some_iff, Option.map_eq_some_iff] at hr
                obtain ⟨elems, hm, rest, _, hx⟩ := hr
                cases hx
                obtain ⟨m1, m2⟩ := we hm
                rw [List.length_range] at m1
                have hwt := hw ((elems.length + rest.length) * P.bytesOf e) (by simp [DataW.weights, hu])
                rw [Fv hte hei] at hwt
                have hlen : len ≤ cm := by
                  have : elems.length ≤ (elems.length + rest.length) * ei.bytes := Nat.le_trans (Nat.le_add_right _ _) (Nat.le_mul_of_pos_right _ hby)
                  unfold reachBytes at hwt
                  unfold cm
                  omega
                rcases Nat.eq_zero_or_pos len with h0 | h0
                · subst h0
                  exact ⟨[], by simp only [Rep]; exact ⟨Nat.zero_le _, _, _, rfl, Nat.zero_le _, .inl trivial⟩⟩
                · have key : ∀ i, i < len → ∃ c, w.cells? 0 (a.add (i * t.size)) t.size = some c ∧ ∃ x, Rep (Hm w) t x c := fun i hi => by
                    have := m2 i (by simpa using hi) (by omega)
                    rw [List.getElem_range, gO hte hei, hs] at this
                    obtain ⟨c, hc, hrr⟩ := Option.bind_eq_some_iff.1 this
                    refine ⟨c, hc, sL k fuel e t c (elems[i]'(by omega)).1 (elems[i]'(by omega)).2 h4 ?_ hrr fun n hn => hw n ?_⟩
                    · obtain ⟨arr, E, fz, _, _, hle, rfl⟩ := HU (by omega) hc
                      exact eP (by simpa using hle)
                    · simp only [DataW.weights, hu, List.mem_cons, List.mem_append]
                      exact .inr (.inl (kw (List.mem_map.2 ⟨elems[i]'(by omega), List.getElem_mem _, rfl⟩) n hn))
                  obtain ⟨c0, hc0, _⟩ := key 0 h0
                  rw [Nat.zero_mul] at hc0
                  obtain ⟨arr, E, fz, hb, hsp, _, _⟩ := HU (by omega) hc0
                  have hb' : w.heap[a.block]? = some (.cells arr E fz) := hb
                  have hsp' : a.spot = none := hsp
                  have at_i : ∀ i, i < len → a.off + i * t.size + t.size ≤ arr.size ∧ ∃ x, Rep (Hm w) t x (seg arr.toList (a.off + i * t.size) t.size) := fun i hi => by
                    obtain ⟨c, hc, x, hx⟩ := key i hi
                    obtain ⟨arr2, E2, fz2, hb2, _, hle, rfl⟩ := HU (by omega) hc
                    have hblk : (a.add (i * t.size)).block = a.block := by unfold Addr.add; split <;> rfl
                    have hoff : (a.add (i * t.size)).off = a.off + i * t.size := by
                      unfold Addr.add
                      split
                      · rename_i h; rw [h]; rfl
                      · rfl
                    rw [hblk, hb'] at hb2
                    cases hb2
                    rw [hoff] at hle hx
                    exact ⟨hle, x, hx⟩
                  obtain ⟨l, l1, l2⟩ := rL (d := t.d) len fun i hi => (at_i i hi).2
                  refine ⟨l, ?_⟩
                  simp only [Rep]
                  refine ⟨by omega, some a, cap, by rw [l1], by omega, .inr ⟨a.block, a.off, arr, E, fz, ?_, hb', ?_, fun i hi => l2 i (by omega)⟩⟩
                  · obtain ⟨blk, off, spot⟩ := a
                    simp only at hsp'
                    rw [hsp']
                  · have := (at_i (len - 1) (by omega)).1
                    have e2 : (len - 1) * t.size + t.size = len * t.size := by
                      rw [← Nat.succ_mul]
                      congr 1
                      omega
                    rw [l1]
                    omega
              · cases hr
        · cases h1
      · -- a struct
        rename_i y _ _ fs he
        rw [he] at hd
        simp only at hd
        obtain ⟨fields, rfl, hf, _⟩ := hd
        rw [Bool.and_eq_true] at h
        have hsz := Nat.eq_of_beq_eq_true h.1
        simp only at hr
        rw [if_pos (by rw [hcells, hl]; exact hsz.symm)] at hr
        simp only [Option.map_eq_some_iff] at hr
        obtain ⟨xs, hm, hx⟩ := hr
        cases hx
        have h2 := h.2
        rw [← hf] at h2
        have := E8 hte (go := tq te k) (cs := cs) (fun T y c d ps a b c' d' => sL k fuel T y c d ps a b c' d') fields.toList 0 y xs h2 (by omega) hm (fun n hn => hw n (by simp only [DataW.weights, hu]; exact hn))
        simpa using this
      · cases h
end
end Sx
end Go.Proofs.Ytkedomfjjahjnaa

namespace Go.Proofs.Ytkedomfjjahjnaa
namespace Sx
open Go Go.RowKit Go.ChangeShapes Go.WideShapes Go.ChangeAt
def acA (te : TE) (k : Nat) : List TypeId → List (Bool × Ty) → Bool
  | [], [] => true
  | T :: ts, (b, y) :: r => (match te T with
    | some ti => (b == ti.desc.agg) && Nat.beq ti.size y.size
    | none => false) && (tq te k T y && acA te k ts r)
  | _, _ => false
section
variable {H : Type} {enc : TypeId × Value → H} {P : Program} {te : TE} (hte : jZ P te) {w : World} {sp : Nat → Bool}
include hte
theorem aei {k : Nat} {T : TypeId} {y : Ty} {ti : TI} {v : Value} {d : DataW H} {ps : List MemPlace} (hT : te T = some ti) (hs : ti.size = y.size) (hp : tq te k T y = true) {base : Nat} (hok : Value.okWide P w .any base T v)
    (h : DataW.Trod enc P w 0 sp true T v d ps) (hw : ∀ n ∈ d.weights P T, n ≤ reachBytes) : ∃ x : y.T, SV.rel (eO w) (inj ti.desc.agg y x) v := by
  obtain ⟨fuel, hf⟩ := h
  obtain ⟨ds, hu, hd⟩ := (hte T ti hT).desc
  cases hagg : ti.desc.agg
  · have hone : v.cells.toList = [v] ∧ v.oneCell' = true := by
      have hc : Cell.okWide P w .any base T v := by
        unfold Value.okWide at hok
        rw [hu] at hok
        cases ds <;> first | exact hok | skip
        all_goals (
          cases hk : ti.desc <;> rw [hk] at hd hagg <;> simp only [TD.agg] at hd hagg <;>
            first | (cases hagg; done) | (cases hd; done) | (obtain ⟨e, he⟩ := hd; cases he; done) | (obtain ⟨⟨e, he⟩, _⟩ := hd; cases he; done) | exact absurd hd id)
      unfold Cell.okWide Cell.ok at hc
      rw [hu] at hc
      cases v <;> first | exact ⟨rfl, rfl⟩ | (exfalso; cases ds <;> first | exact hc | (simp at hc; done))
    rw [hone.1] at hf
    have hsz : y.size = 1 := by rw [← hs]; exact (hte T ti hT).one hagg
    obtain ⟨x, hx⟩ := sL hte k fuel T y [v] d ps hp (by rw [hsz]; rfl) hf hw
    refine ⟨x, ?_⟩
    have hr := eQ (R := eO w) y x [v] hx
    simp only [inj, nj, Bool.false_eq_true, if_false]
    have hl := fH y x
    rw [hsz] at hl
    match hc : unpack y x, hl with
    | [u], _ =>
      rw [hc] at hr
      obtain ⟨v', e, h⟩ := cg hr
      cases e
      exact h
  · have hv : ∃ cs, v = .agg cs ∧ cs.size = P.cellsOf T := by
      unfold Value.okWide at hok
      rw [hu] at hok
      cases hk : ti.desc <;> rw [hk] at hd hagg <;> simp only [TD.agg] at hd hagg <;> try (cases hagg; done)
      · obtain ⟨fields, rfl, _⟩ := hd
        obtain ⟨cs, h1, h2, _⟩ := hok
        exact ⟨cs, h1, h2⟩
      · subst hd
        obtain ⟨cs, h1, h2, _⟩ := hok
        exact ⟨cs, h1, h2⟩
    obtain ⟨cs, rfl, hsz⟩ := hv
    obtain ⟨x, hx⟩ := sL hte k fuel T y cs.toList d ps hp (by rw [Array.length_toList, hsz, gO hte hT, hs]) hf hw
    exact ⟨x, tH (eQ (R := eO w) y x _ hx) (mN _ _ _ hx)⟩
theorem Kb {k base : Nat} : ∀ {ts : List TypeId} {kd : List (Bool × Ty)} {vs : List Value} {ds : List (DataW H)} {ps : List MemPlace}, acA te k ts kd = true →
    (∀ (j : Nat) t v, ts[j]? = some t → vs[j]? = some v → Value.okWide P w .any base t v) → DataW.TrodAll enc P w 0 sp true ts vs ds ps → (DataW.weightsEach P ts ds).all (· ≤ reachBytes) = true →
    ∃ x : ATy kd, SV.bK (eO w) (aeL kd x) vs
  | [], [], [], [], _, _, _, _, _ => ⟨(), by simp only [aeL, SV.bK]⟩
  | [], [], v :: vs, _, _, _, _, h, _ => by simp [DataW.TrodAll] at h
  | [], [], [], d :: ds, _, _, _, h, _ => by simp [DataW.TrodAll] at h
  | [], a :: kd, _, _, _, h, _, _, _ => by simp [acA] at h
  | T :: ts, [], _, _, _, h, _, _, _ => by simp [acA] at h
  | T :: ts, (b, y) :: kd, [], _, _, _, _, h, _ => by simp [DataW.TrodAll] at h
  | T :: ts, (b, y) :: kd, v :: vs, [], _, _, _, h, _ => by simp [DataW.TrodAll] at h
  | T :: ts, (b, y) :: kd, v :: vs, d :: ds, ps, h, hok, ht, hw => by
    obtain ⟨p, q, h1, h2, rfl⟩ := ht
    simp only [acA, Bool.and_eq_true] at h
    obtain ⟨hb, hp, hr⟩ := h
    split at hb
    · rename_i ti hT
      rw [Bool.and_eq_true] at hb
      have e1 : b = ti.desc.agg := by simpa using hb.1
      subst e1
      simp only [DataW.weightsEach, List.all_append, Bool.and_eq_true] at hw
      obtain ⟨x, hx⟩ := aei hte hT (Nat.eq_of_beq_eq_true hb.2) hp (hok 0 T v rfl rfl) h1 fun n hn => by simpa using List.all_eq_true.1 hw.1 n hn
      obtain ⟨xs, hxs⟩ := Kb hr (fun j t u h1 h2 => hok (j + 1) t u h1 h2) h2 hw.2
      exact ⟨(x, xs), by simp only [aeL, SV.bK]; exact ⟨v, vs, rfl, hx, hxs⟩⟩
    · cases hb
end
theorem ady {S : ap} {pre : S.T → Bool} {F : S.T → OT S.Y} {args : List SV} {X : S.T} {out : Out} (hp : S.inp.prj ⟨args, ael⟩ = some X) (hpre : pre X = true)
    (hr : ((F X).bind fun oy => S.emit (S.inp.bd ⟨args, ael⟩) 0 ael oy.1 oy.2).run = some out) : ((S.aK pre F).f 0 args ael).run = some out := by
  simp only [ap.aK, hp, hpre]
  exact hr
theorem FG {H : Type} {enc : TypeId × Value → H} {P : Program} {w w' : World} (hl : laidOutB P = true) (hb : Below w.heap.size w w') : ∀ {ts : List TypeId} {vs : List Value} {ds : List (DataW H)} {ps : List MemPlace},
    ts.all (fun t => P.readableRec t && Nat.blt t P.types.size) = true → DataW.TrodAll enc P w 0 (fun _ => true) true ts vs ds ps → DataW.TrodAll enc P w' 0 (fun b => decide (b < w.heap.size)) true ts vs ds ps
  | [], [], [], _, _, h => h
  | [], v :: vs, _, _, _, h => by simp [DataW.TrodAll] at h
  | [], [], d :: ds, _, _, h => by simp [DataW.TrodAll] at h
  | T :: ts, [], _, _, _, h => by simp [DataW.TrodAll] at h
  | T :: ts, v :: vs, [], _, _, h => by simp [DataW.TrodAll] at h
  | T :: ts, v :: vs, d :: ds, ps, hr, h => by
    obtain ⟨p, q, h1, h2, rfl⟩ := h
    simp only [List.all_cons, Bool.and_eq_true] at hr
    have lt1 : ∀ x ∈ p, x.block < w.heap.size := by obtain ⟨m, hm⟩ := h1; exact DataW.trod_lt m _ _ _ hm
    exact ⟨p, q, Below.trod hl hr.1.1 (cC hr.1.2) h1 hb lt1, FG hl hb hr.2 h2, rfl⟩
end Sx
end Go.Proofs.Ytkedomfjjahjnaa

namespace Go.Proofs.Ytkedomfjjahjnaa
namespace Sx
open Go
theorem aga {P : Program} {f : FuncId} {S : ap} {k : Nat} (hk : S.chunks.all (fun c => Nat.blt c.1 k && !c.2.tL) = true) {pre : S.T → Bool} {F : S.T → OT S.Y}
    (h : ∀ (x : S.T) (oy : S.Y) (vs : List Value) (N : Ctx) (w : World), pre x = true → (F x).run = some oy → SV.bK N (S.inp.inj x).tm vs →
      ∃ v u, (callFunc f vs.toArray).run P w = .ok (.value u) w ∧ SV.rel N v u ∧ oy.1.is oy.2 false v (dp S.chunks x.2)) : ab P f (S.aK pre F) := by
  refine ⟨?_⟩
  intro R w d args vs out hm hr hrun
  simp only [ap.aK] at hrun
  split at hrun
  · cases hrun
  · rename_i x hx
    obtain ⟨hpre, h2⟩ := OT.aC hrun
    obtain ⟨oy, h3, h4⟩ := OT.run_bind h2
    unfold ap.emit at h4
    dsimp only at h4
    obtain ⟨hend, h5⟩ := OT.aC h4
    have hx' := hx
    unfold Shape.prj at hx'
    dsimp only at hx'
    cases hbo : S.inp.DE ⟨args, R.hp⟩ (S.inp.bd ⟨args, R.hp⟩) && Nat.beq args.length S.inp.n
    · rw [hbo] at hx'; cases hx'
    · rw [hbo] at hx'
      rw [Bool.and_eq_true] at hbo
      obtain ⟨hx1, hx2⟩ := bw hx'
      have hlen : args.length = S.inp.n := Nat.eq_of_beq_eq_true hbo.2
      have hN := GP (s := S.inp) (st := ⟨args, R.hp⟩) (F' := R.xQ (S.inp.bd ⟨args, R.hp⟩) S.bD w) (U' := R.DQ (S.inp.bd ⟨args, R.hp⟩) S.bD w) hbo.1 hx2 rfl hm (KJ hm) (Hi hm) aaI (KI hm) KH af3 hm.env
      have hargs : SV.bK (R.named (R.xQ (S.inp.bd ⟨args, R.hp⟩) S.bD w) (R.DQ (S.inp.bd ⟨args, R.hp⟩) S.bD w) (S.inp.bd ⟨args, R.hp⟩) (dp S.chunks x.2)) (S.inp.inj x).tm vs :=
        kb (s := S.inp) (st := ⟨args, R.hp⟩) hbo.1 hx2 rfl hm (KJ hm) (Hi hm) hr hx1 (SV.vj (by rw [List.length_replicate, ← hlen]; exact SV.aM hr) fun i hi hi' => by simp [SV.rel])
      obtain ⟨v, u, hv, hru, his⟩ := h x oy vs _ w hpre h3 hargs
      obtain ⟨R', a1, a2⟩ := aba hm hx hk (Ctx.Ext.refl _) hN hru his hend
      rw [his.1] at h5
      cases h5
      exact .inr ⟨u, w, hv, u, R', rfl, a1, a2⟩
end Sx
end Go.Proofs.Ytkedomfjjahjnaa

namespace Go.Proofs.Ytkedomfjjahjnaa
namespace Sx
open Go
def Out.after (u : List (Nat × Ch)) : Out → Out
  | .ret e => .ret ⟨e.v, u ++ e.upd⟩
  | .pan v u' => .pan v (u ++ u')
theorem eo.trans {R R1 R2 : Ctx} {w w' : World} {u u' : List (Nat × Ch)} (h : eo R R1 w u) (h' : eo R1 R2 w' u') : eo R R2 w' (u ++ u') :=
  ⟨h.ext.trans h'.ext, by rw [h'.hp, h.hp, fy], h'.mem⟩
end Sx
end Go.Proofs.Ytkedomfjjahjnaa

namespace Go.Proofs.Ytkedomfjjahjnaa
open Sx Go
set_option maxRecDepth 100000
def afH : TI := ⟨1, 8, .other, [.cd], none⟩
theorem akA : bN Try.prog 1 afH := ak (by kernel_rfl) (by kernel_rfl) (by kernel_rfl) (by kernel_rfl) (by kernel_rfl) (by kernel_rfl) (by kernel_rfl) (by kernel_rfl) (by kernel_rfl) (by kernel_rfl) (by kernel_rfl) trivial
def afG : TI := ⟨1, 8, .int .i64, [.int 0], some .int⟩
theorem akz : bN Try.prog 2 afG := ak (by kernel_rfl) (by kernel_rfl) (by kernel_rfl) (by kernel_rfl) (by kernel_rfl) (by kernel_rfl) (by kernel_rfl) (by kernel_rfl) (by kernel_rfl) (by kernel_rfl) (by kernel_rfl) ⟨by kernel_rfl, by kernel_rfl, by kernel_rfl⟩
def afF : TI := ⟨1, 8, .int .i64, [.int 0], some .int⟩
theorem aky : bN Try.prog 3 afF := ak (by kernel_rfl) (by kernel_rfl) (by kernel_rfl) (by kernel_rfl) (by kernel_rfl) (by kernel_rfl) (by kernel_rfl) (by kernel_rfl) (by kernel_rfl) (by kernel_rfl) (by kernel_rfl) ⟨by kernel_rfl, by kernel_rfl, by kernel_rfl⟩
def afE : TI := ⟨1, 1, .bool, [.bool false], some .bool⟩
theorem akx : bN Try.prog 4 afE := ak (by kernel_rfl) (by kernel_rfl) (by kernel_rfl) (by kernel_rfl) (by kernel_rfl) (by kernel_rfl) (by kernel_rfl) (by kernel_rfl) (by kernel_rfl) (by kernel_rfl) (by kernel_rfl) ⟨by kernel_rfl, by kernel_rfl, by kernel_rfl⟩
def afD : TI := ⟨1, 1, .int .u8, [.u8 0], some .u8⟩
theorem akw : bN Try.prog 5 afD := ak (by kernel_rfl) (by kernel_rfl) (by kernel_rfl) (by kernel_rfl) (by kernel_rfl) (by kernel_rfl) (by kernel_rfl) (by kernel_rfl) (by kernel_rfl) (by kernel_rfl) (by kernel_rfl) ⟨by kernel_rfl, by kernel_rfl, by kernel_rfl⟩
def afC : TI := ⟨1, 1, .int .u8, [.u8 0], some .u8⟩
theorem akv : bN Try.prog 6 afC := ak (by kernel_rfl) (by kernel_rfl) (by kernel_rfl) (by kernel_rfl) (by kernel_rfl) (by kernel_rfl) (by kernel_rfl) (by kernel_rfl) (by kernel_rfl) (by kernel_rfl) (by kernel_rfl) ⟨by kernel_rfl, by kernel_rfl, by kernel_rfl⟩
def afB : TI := ⟨4, 24, .struct [(0, 2), (1, 3), (2, 4), (3, 6)], [.int 0, .int 0, .bool false, .u8 0], some (.prod .int (.prod .int (.prod .bool .u8)))⟩
theorem aku : bN Try.prog 7 afB := ak (by kernel_rfl) (by kernel_rfl) (by kernel_rfl) (by kernel_rfl) (by kernel_rfl) (by kernel_rfl) (by kernel_rfl) (by kernel_rfl) (by kernel_rfl) (by kernel_rfl) (by kernel_rfl) ⟨by kernel_rfl, by kernel_rfl, by kernel_rfl⟩
def afA : TI := ⟨4, 24, .struct [(0, 2), (1, 3), (2, 4), (3, 6)], [.int 0, .int 0, .bool false, .u8 0], some (.prod .int (.prod .int (.prod .bool .u8)))⟩
theorem akt : bN Try.prog 8 afA := ak (by kernel_rfl) (by kernel_rfl) (by kernel_rfl) (by kernel_rfl) (by kernel_rfl) (by kernel_rfl) (by kernel_rfl) (by kernel_rfl) (by kernel_rfl) (by kernel_rfl) (by kernel_rfl) ⟨by kernel_rfl, by kernel_rfl, by kernel_rfl⟩
def afz : TI := ⟨1, 16, .str, [.str []], some .str⟩
theorem aks : bN Try.prog 9 afz := ak (by kernel_rfl) (by kernel_rfl) (by kernel_rfl) (by kernel_rfl) (by kernel_rfl) (by kernel_rfl) (by kernel_rfl) (by kernel_rfl) (by kernel_rfl) (by kernel_rfl) (by kernel_rfl) ⟨by kernel_rfl, by kernel_rfl, by kernel_rfl⟩
def Yq : TI := ⟨1, 16, .str, [.str []], some .str⟩
theorem ahZ : bN Try.prog 10 Yq := ak (by kernel_rfl) (by kernel_rfl) (by kernel_rfl) (by kernel_rfl) (by kernel_rfl) (by kernel_rfl) (by kernel_rfl) (by kernel_rfl) (by kernel_rfl) (by kernel_rfl) (by kernel_rfl) ⟨by kernel_rfl, by kernel_rfl, by kernel_rfl⟩
def Yp : TI := ⟨1, 16, .str, [.str []], some .str⟩
theorem ahY : bN Try.prog 11 Yp := ak (by kernel_rfl) (by kernel_rfl) (by kernel_rfl) (by kernel_rfl) (by kernel_rfl) (by kernel_rfl) (by kernel_rfl) (by kernel_rfl) (by kernel_rfl) (by kernel_rfl) (by kernel_rfl) ⟨by kernel_rfl, by kernel_rfl, by kernel_rfl⟩
def Yo : TI := ⟨1, 8, .int .u64, [.u64 0], some .u64⟩
theorem ahX : bN Try.prog 12 Yo := ak (by kernel_rfl) (by kernel_rfl) (by kernel_rfl) (by kernel_rfl) (by kernel_rfl) (by kernel_rfl) (by kernel_rfl) (by kernel_rfl) (by kernel_rfl) (by kernel_rfl) (by kernel_rfl) ⟨by kernel_rfl, by kernel_rfl, by kernel_rfl⟩
def Yn : TI := ⟨1, 8, .ptr [("Error", 128), ("RuntimeError", 129)], [.u5], none⟩
theorem ahW : bN Try.prog 15 Yn := ak (by kernel_rfl) (by kernel_rfl) (by kernel_rfl) (by kernel_rfl) (by kernel_rfl) (by kernel_rfl) (by kernel_rfl) (by kernel_rfl) (by kernel_rfl) (by kernel_rfl) (by kernel_rfl) trivial
def Ym : TI := ⟨1, 8, .ptr [("Error", 130), ("RuntimeError", 131)], [.u5], none⟩
theorem ahV : bN Try.prog 16 Ym := ak (by kernel_rfl) (by kernel_rfl) (by kernel_rfl) (by kernel_rfl) (by kernel_rfl) (by kernel_rfl) (by kernel_rfl) (by kernel_rfl) (by kernel_rfl) (by kernel_rfl) (by kernel_rfl) trivial
def Yl : TI := ⟨1, 8, .ptr [("Align", 132)], [.u5], none⟩
theorem ahU : bN Try.prog 17 Yl := ak (by kernel_rfl) (by kernel_rfl) (by kernel_rfl) (by kernel_rfl) (by kernel_rfl) (by kernel_rfl) (by kernel_rfl) (by kernel_rfl) (by kernel_rfl) (by kernel_rfl) (by kernel_rfl) trivial
def Yk : TI := ⟨1, 16, .iface, [.fB], none⟩
theorem ahT : bN Try.prog 20 Yk := ak (by kernel_rfl) (by kernel_rfl) (by kernel_rfl) (by kernel_rfl) (by kernel_rfl) (by kernel_rfl) (by kernel_rfl) (by kernel_rfl) (by kernel_rfl) (by kernel_rfl) (by kernel_rfl) trivial
def Yj : TI := ⟨1, 4, .int .i32, [.cd], none⟩
theorem ahS : bN Try.prog 21 Yj := ak (by kernel_rfl) (by kernel_rfl) (by kernel_rfl) (by kernel_rfl) (by kernel_rfl) (by kernel_rfl) (by kernel_rfl) (by kernel_rfl) (by kernel_rfl) (by kernel_rfl) (by kernel_rfl) trivial
def Yi : TI := ⟨1, 8, .int .u64, [.u64 0], some .u64⟩
theorem ahR : bN Try.prog 22 Yi := ak (by kernel_rfl) (by kernel_rfl) (by kernel_rfl) (by kernel_rfl) (by kernel_rfl) (by kernel_rfl) (by kernel_rfl) (by kernel_rfl) (by kernel_rfl) (by kernel_rfl) (by kernel_rfl) ⟨by kernel_rfl, by kernel_rfl, by kernel_rfl⟩
def Yh : TI := ⟨4, 32, .array 4 22, [.u64 0, .u64 0, .u64 0, .u64 0], some .elem⟩
theorem ahQ : bN Try.prog 23 Yh := ak (by kernel_rfl) (by kernel_rfl) (by kernel_rfl) (by kernel_rfl) (by kernel_rfl) (by kernel_rfl) (by kernel_rfl) (by kernel_rfl) (by kernel_rfl) (by kernel_rfl) (by kernel_rfl) ⟨by kernel_rfl, by kernel_rfl, by kernel_rfl⟩
def Yg : TI := ⟨4, 32, .array 4 22, [.u64 0, .u64 0, .u64 0, .u64 0], some .elem⟩
theorem ahP : bN Try.prog 24 Yg := ak (by kernel_rfl) (by kernel_rfl) (by kernel_rfl) (by kernel_rfl) (by kernel_rfl) (by kernel_rfl) (by kernel_rfl) (by kernel_rfl) (by kernel_rfl) (by kernel_rfl) (by kernel_rfl) ⟨by kernel_rfl, by kernel_rfl, by kernel_rfl⟩
def Yf : TI := ⟨9, 72, .struct [(0, 24), (4, 24), (8, 4)], [.u64 0, .u64 0, .u64 0, .u64 0, .u64 0, .u64 0, .u64 0, .u64 0, .bool false], some (.prod .elem (.prod .elem .bool))⟩
theorem ahO : bN Try.prog 25 Yf := ak (by kernel_rfl) (by kernel_rfl) (by kernel_rfl) (by kernel_rfl) (by kernel_rfl) (by kernel_rfl) (by kernel_rfl) (by kernel_rfl) (by kernel_rfl) (by kernel_rfl) (by kernel_rfl) ⟨by kernel_rfl, by kernel_rfl, by kernel_rfl⟩
def Ye : TI := ⟨9, 72, .struct [(0, 24), (4, 24), (8, 4)], [.u64 0, .u64 0, .u64 0, .u64 0, .u64 0, .u64 0, .u64 0, .u64 0, .bool false], some (.prod .elem (.prod .elem .bool))⟩
theorem ahN : bN Try.prog 26 Ye := ak (by kernel_rfl) (by kernel_rfl) (by kernel_rfl) (by kernel_rfl) (by kernel_rfl) (by kernel_rfl) (by kernel_rfl) (by kernel_rfl) (by kernel_rfl) (by kernel_rfl) (by kernel_rfl) ⟨by kernel_rfl, by kernel_rfl, by kernel_rfl⟩
def Yd : TI := ⟨1, 8, .other, [.cd], none⟩
theorem ahM : bN Try.prog 27 Yd := ak (by kernel_rfl) (by kernel_rfl) (by kernel_rfl) (by kernel_rfl) (by kernel_rfl) (by kernel_rfl) (by kernel_rfl) (by kernel_rfl) (by kernel_rfl) (by kernel_rfl) (by kernel_rfl) trivial
def Yc : TI := ⟨1, 8, .other, [.cd], none⟩
theorem ahL : bN Try.prog 28 Yc := ak (by kernel_rfl) (by kernel_rfl) (by kernel_rfl) (by kernel_rfl) (by kernel_rfl) (by kernel_rfl) (by kernel_rfl) (by kernel_rfl) (by kernel_rfl) (by kernel_rfl) (by kernel_rfl) trivial
def Yb : TI := ⟨1, 8, .other, [.cd], none⟩
theorem ahK : bN Try.prog 29 Yb := ak (by kernel_rfl) (by kernel_rfl) (by kernel_rfl) (by kernel_rfl) (by kernel_rfl) (by kernel_rfl) (by kernel_rfl) (by kernel_rfl) (by kernel_rfl) (by kernel_rfl) (by kernel_rfl) trivial
def F3 : TI := ⟨1, 24, .slice 32, [.emp], some (.list (.prod .elem (.prod .elem (.prod .elem .bool))))⟩
theorem ahJ : bN Try.prog 30 F3 := ak (by kernel_rfl) (by kernel_rfl) (by kernel_rfl) (by kernel_rfl) (by kernel_rfl) (by kernel_rfl) (by kernel_rfl) (by kernel_rfl) (by kernel_rfl) (by kernel_rfl) (by kernel_rfl) ⟨by kernel_rfl, by kernel_rfl, by kernel_rfl⟩
def Ya : TI := ⟨13, 104, .struct [(0, 24), (4, 26)], [.u64 0, .u64 0, .u64 0, .u64 0, .u64 0, .u64 0, .u64 0, .u64 0, .u64 0, .u64 0, .u64 0, .u64 0, .bool false], some (.prod .elem (.prod .elem (.prod .elem .bool)))⟩
theorem ahI : bN Try.prog 31 Ya := ak (by kernel_rfl) (by kernel_rfl) (by kernel_rfl) (by kernel_rfl) (by kernel_rfl) (by kernel_rfl) (by kernel_rfl) (by kernel_rfl) (by kernel_rfl) (by kernel_rfl) (by kernel_rfl) ⟨by kernel_rfl, by kernel_rfl, by kernel_rfl⟩
def zK : TI := ⟨13, 104, .struct [(0, 24), (4, 26)], [.u64 0, .u64 0, .u64 0, .u64 0, .u64 0, .u64 0, .u64 0, .u64 0, .u64 0, .u64 0, .u64 0, .u64 0, .bool false], some (.prod .elem (.prod .elem (.prod .elem .bool)))⟩
theorem ahH : bN Try.prog 32 zK := ak (by kernel_rfl) (by kernel_rfl) (by kernel_rfl) (by kernel_rfl) (by kernel_rfl) (by kernel_rfl) (by kernel_rfl) (by kernel_rfl) (by kernel_rfl) (by kernel_rfl) (by kernel_rfl) ⟨by kernel_rfl, by kernel_rfl, by kernel_rfl⟩
def X9 : TI := ⟨1, 8, .int .i64, [.int 0], some .int⟩
theorem ahG : bN Try.prog 33 X9 := ak (by kernel_rfl) (by kernel_rfl) (by kernel_rfl) (by kernel_rfl) (by kernel_rfl) (by kernel_rfl) (by kernel_rfl) (by kernel_rfl) (by kernel_rfl) (by kernel_rfl) (by kernel_rfl) ⟨by kernel_rfl, by kernel_rfl, by kernel_rfl⟩
def X8 : TI := ⟨1, 8, .other, [.cd], none⟩
theorem ahF : bN Try.prog 35 X8 := ak (by kernel_rfl) (by kernel_rfl) (by kernel_rfl) (by kernel_rfl) (by kernel_rfl) (by kernel_rfl) (by kernel_rfl) (by kernel_rfl) (by kernel_rfl) (by kernel_rfl) (by kernel_rfl) trivial
def X7 : TI := ⟨1, 8, .other, [.cd], none⟩
theorem ahE : bN Try.prog 36 X7 := ak (by kernel_rfl) (by kernel_rfl) (by kernel_rfl) (by kernel_rfl) (by kernel_rfl) (by kernel_rfl) (by kernel_rfl) (by kernel_rfl) (by kernel_rfl) (by kernel_rfl) (by kernel_rfl) trivial
def X6 : TI := ⟨1, 8, .other, [.cd], none⟩
theorem ahD : bN Try.prog 37 X6 := ak (by kernel_rfl) (by kernel_rfl) (by kernel_rfl) (by kernel_rfl) (by kernel_rfl) (by kernel_rfl) (by kernel_rfl) (by kernel_rfl) (by kernel_rfl) (by kernel_rfl) (by kernel_rfl) trivial
def X5 : TI := ⟨1, 8, .other, [.cd], none⟩
theorem ahC : bN Try.prog 38 X5 := ak (by kernel_rfl) (by kernel_rfl) (by kernel_rfl) (by kernel_rfl) (by kernel_rfl) (by kernel_rfl) (by kernel_rfl) (by kernel_rfl) (by kernel_rfl) (by kernel_rfl) (by kernel_rfl) trivial
def X4 : TI := ⟨1, 8, .other, [.cd], none⟩
theorem ahB : bN Try.prog 39 X4 := ak (by kernel_rfl) (by kernel_rfl) (by kernel_rfl) (by kernel_rfl) (by kernel_rfl) (by kernel_rfl) (by kernel_rfl) (by kernel_rfl) (by kernel_rfl) (by kernel_rfl) (by kernel_rfl) trivial
def X3 : TI := ⟨1, 8, .other, [.cd], none⟩
theorem ahA : bN Try.prog 40 X3 := ak (by kernel_rfl) (by kernel_rfl) (by kernel_rfl) (by kernel_rfl) (by kernel_rfl) (by kernel_rfl) (by kernel_rfl) (by kernel_rfl) (by kernel_rfl) (by kernel_rfl) (by kernel_rfl) trivial
def X0 : TI := ⟨1, 8, .other, [.cd], none⟩
theorem ahz : bN Try.prog 41 X0 := ak (by kernel_rfl) (by kernel_rfl) (by kernel_rfl) (by kernel_rfl) (by kernel_rfl) (by kernel_rfl) (by kernel_rfl) (by kernel_rfl) (by kernel_rfl) (by kernel_rfl) (by kernel_rfl) trivial
def XZ : TI := ⟨1, 8, .other, [.cd], none⟩
theorem ahy : bN Try.prog 42 XZ := ak (by kernel_rfl) (by kernel_rfl) (by kernel_rfl) (by kernel_rfl) (by kernel_rfl) (by kernel_rfl) (by kernel_rfl) (by kernel_rfl) (by kernel_rfl) (by kernel_rfl) (by kernel_rfl) trivial
def XY : TI := ⟨1, 8, .other, [.cd], none⟩
theorem ahx : bN Try.prog 43 XY := ak (by kernel_rfl) (by kernel_rfl) (by kernel_rfl) (by kernel_rfl) (by kernel_rfl) (by kernel_rfl) (by kernel_rfl) (by kernel_rfl) (by kernel_rfl) (by kernel_rfl) (by kernel_rfl) trivial
def XX : TI := ⟨1, 8, .other, [.cd], none⟩
theorem ahw : bN Try.prog 44 XX := ak (by kernel_rfl) (by kernel_rfl) (by kernel_rfl) (by kernel_rfl) (by kernel_rfl) (by kernel_rfl) (by kernel_rfl) (by kernel_rfl) (by kernel_rfl) (by kernel_rfl) (by kernel_rfl) trivial
def XW : TI := ⟨1, 8, .other, [.cd], none⟩
theorem ahv : bN Try.prog 45 XW := ak (by kernel_rfl) (by kernel_rfl) (by kernel_rfl) (by kernel_rfl) (by kernel_rfl) (by kernel_rfl) (by kernel_rfl) (by kernel_rfl) (by kernel_rfl) (by kernel_rfl) (by kernel_rfl) trivial
def XV : TI := ⟨1, 8, .ptr [("Add", 29), ("Join", 42), ("Scale", 32), ("Terms", 30), ("Value", 33)], [.u5], none⟩
theorem ahu : bN Try.prog 46 XV := ak (by kernel_rfl) (by kernel_rfl) (by kernel_rfl) (by kernel_rfl) (by kernel_rfl) (by kernel_rfl) (by kernel_rfl) (by kernel_rfl) (by kernel_rfl) (by kernel_rfl) (by kernel_rfl) trivial
def XU : TI := ⟨1, 8, .other, [.cd], none⟩
theorem aht : bN Try.prog 48 XU := ak (by kernel_rfl) (by kernel_rfl) (by kernel_rfl) (by kernel_rfl) (by kernel_rfl) (by kernel_rfl) (by kernel_rfl) (by kernel_rfl) (by kernel_rfl) (by kernel_rfl) (by kernel_rfl) trivial
def XT : TI := ⟨1, 8, .other, [.cd], none⟩
theorem ahs : bN Try.prog 49 XT := ak (by kernel_rfl) (by kernel_rfl) (by kernel_rfl) (by kernel_rfl) (by kernel_rfl) (by kernel_rfl) (by kernel_rfl) (by kernel_rfl) (by kernel_rfl) (by kernel_rfl) (by kernel_rfl) trivial
def XS : TI := ⟨1, 8, .other, [.cd], none⟩
theorem ahr : bN Try.prog 50 XS := ak (by kernel_rfl) (by kernel_rfl) (by kernel_rfl) (by kernel_rfl) (by kernel_rfl) (by kernel_rfl) (by kernel_rfl) (by kernel_rfl) (by kernel_rfl) (by kernel_rfl) (by kernel_rfl) trivial
def XR : TI := ⟨1, 8, .other, [.cd], none⟩
theorem ahq : bN Try.prog 51 XR := ak (by kernel_rfl) (by kernel_rfl) (by kernel_rfl) (by kernel_rfl) (by kernel_rfl) (by kernel_rfl) (by kernel_rfl) (by kernel_rfl) (by kernel_rfl) (by kernel_rfl) (by kernel_rfl) trivial
def XQ : TI := ⟨1, 8, .other, [.cd], none⟩
theorem ahp : bN Try.prog 52 XQ := ak (by kernel_rfl) (by kernel_rfl) (by kernel_rfl) (by kernel_rfl) (by kernel_rfl) (by kernel_rfl) (by kernel_rfl) (by kernel_rfl) (by kernel_rfl) (by kernel_rfl) (by kernel_rfl) trivial
def XP : TI := ⟨1, 8, .other, [.cd], none⟩
theorem aho : bN Try.prog 53 XP := ak (by kernel_rfl) (by kernel_rfl) (by kernel_rfl) (by kernel_rfl) (by kernel_rfl) (by kernel_rfl) (by kernel_rfl) (by kernel_rfl) (by kernel_rfl) (by kernel_rfl) (by kernel_rfl) trivial
def XO : TI := ⟨1, 24, .slice 5, [.emp], some (.list .u8)⟩
theorem ahn : bN Try.prog 54 XO := ak (by kernel_rfl) (by kernel_rfl) (by kernel_rfl) (by kernel_rfl) (by kernel_rfl) (by kernel_rfl) (by kernel_rfl) (by kernel_rfl) (by kernel_rfl) (by kernel_rfl) (by kernel_rfl) ⟨by kernel_rfl, by kernel_rfl, by kernel_rfl⟩
def XN : TI := ⟨1, 8, .other, [.cd], none⟩
theorem ahm : bN Try.prog 55 XN := ak (by kernel_rfl) (by kernel_rfl) (by kernel_rfl) (by kernel_rfl) (by kernel_rfl) (by kernel_rfl) (by kernel_rfl) (by kernel_rfl) (by kernel_rfl) (by kernel_rfl) (by kernel_rfl) trivial
def XM : TI := ⟨1, 8, .other, [.cd], none⟩
theorem ahl : bN Try.prog 56 XM := ak (by kernel_rfl) (by kernel_rfl) (by kernel_rfl) (by kernel_rfl) (by kernel_rfl) (by kernel_rfl) (by kernel_rfl) (by kernel_rfl) (by kernel_rfl) (by kernel_rfl) (by kernel_rfl) trivial
def XL : TI := ⟨1, 8, .other, [.cd], none⟩
theorem ahk : bN Try.prog 57 XL := ak (by kernel_rfl) (by kernel_rfl) (by kernel_rfl) (by kernel_rfl) (by kernel_rfl) (by kernel_rfl) (by kernel_rfl) (by kernel_rfl) (by kernel_rfl) (by kernel_rfl) (by kernel_rfl) trivial
def XK : TI := ⟨1, 8, .other, [.cd], none⟩
theorem ahj : bN Try.prog 58 XK := ak (by kernel_rfl) (by kernel_rfl) (by kernel_rfl) (by kernel_rfl) (by kernel_rfl) (by kernel_rfl) (by kernel_rfl) (by kernel_rfl) (by kernel_rfl) (by kernel_rfl) (by kernel_rfl) trivial
def XJ : TI := ⟨1, 8, .other, [.cd], none⟩
theorem ahi : bN Try.prog 59 XJ := ak (by kernel_rfl) (by kernel_rfl) (by kernel_rfl) (by kernel_rfl) (by kernel_rfl) (by kernel_rfl) (by kernel_rfl) (by kernel_rfl) (by kernel_rfl) (by kernel_rfl) (by kernel_rfl) trivial
def XI : TI := ⟨1, 8, .other, [.cd], none⟩
theorem ahh : bN Try.prog 60 XI := ak (by kernel_rfl) (by kernel_rfl) (by kernel_rfl) (by kernel_rfl) (by kernel_rfl) (by kernel_rfl) (by kernel_rfl) (by kernel_rfl) (by kernel_rfl) (by kernel_rfl) (by kernel_rfl) trivial
def XH : TI := ⟨1, 8, .other, [.cd], none⟩
theorem ahg : bN Try.prog 61 XH := ak (by kernel_rfl) (by kernel_rfl) (by kernel_rfl) (by kernel_rfl) (by kernel_rfl) (by kernel_rfl) (by kernel_rfl) (by kernel_rfl) (by kernel_rfl) (by kernel_rfl) (by kernel_rfl) trivial
def XG : TI := ⟨1, 8, .other, [.cd], none⟩
theorem ahf : bN Try.prog 62 XG := ak (by kernel_rfl) (by kernel_rfl) (by kernel_rfl) (by kernel_rfl) (by kernel_rfl) (by kernel_rfl) (by kernel_rfl) (by kernel_rfl) (by kernel_rfl) (by kernel_rfl) (by kernel_rfl) trivial
def XF : TI := ⟨1, 24, .slice 65, [.emp], some (.list (.prod .int (.prod .elem (.prod .elem (.prod .elem .bool)))))⟩
theorem ahe : bN Try.prog 63 XF := ak (by kernel_rfl) (by kernel_rfl) (by kernel_rfl) (by kernel_rfl) (by kernel_rfl) (by kernel_rfl) (by kernel_rfl) (by kernel_rfl) (by kernel_rfl) (by kernel_rfl) (by kernel_rfl) ⟨by kernel_rfl, by kernel_rfl, by kernel_rfl⟩
def XE : TI := ⟨14, 112, .struct [(0, 3), (1, 24), (5, 26)], [.int 0, .u64 0, .u64 0, .u64 0, .u64 0, .u64 0, .u64 0, .u64 0, .u64 0, .u64 0, .u64 0, .u64 0, .u64 0, .bool false], some (.prod .int (.prod .elem (.prod .elem (.prod .elem .bool))))⟩
theorem ahd : bN Try.prog 64 XE := ak (by kernel_rfl) (by kernel_rfl) (by kernel_rfl) (by kernel_rfl) (by kernel_rfl) (by kernel_rfl) (by kernel_rfl) (by kernel_rfl) (by kernel_rfl) (by kernel_rfl) (by kernel_rfl) ⟨by kernel_rfl, by kernel_rfl, by kernel_rfl⟩
def XD : TI := ⟨14, 112, .struct [(0, 3), (1, 24), (5, 26)], [.int 0, .u64 0, .u64 0, .u64 0, .u64 0, .u64 0, .u64 0, .u64 0, .u64 0, .u64 0, .u64 0, .u64 0, .u64 0, .bool false], some (.prod .int (.prod .elem (.prod .elem (.prod .elem .bool))))⟩
theorem ahc : bN Try.prog 65 XD := ak (by kernel_rfl) (by kernel_rfl) (by kernel_rfl) (by kernel_rfl) (by kernel_rfl) (by kernel_rfl) (by kernel_rfl) (by kernel_rfl) (by kernel_rfl) (by kernel_rfl) (by kernel_rfl) ⟨by kernel_rfl, by kernel_rfl, by kernel_rfl⟩
def XC : TI := ⟨1, 8, .other, [.cd], none⟩
theorem ahb : bN Try.prog 66 XC := ak (by kernel_rfl) (by kernel_rfl) (by kernel_rfl) (by kernel_rfl) (by kernel_rfl) (by kernel_rfl) (by kernel_rfl) (by kernel_rfl) (by kernel_rfl) (by kernel_rfl) (by kernel_rfl) trivial
def XB : TI := ⟨1, 8, .other, [.cd], none⟩
theorem aha : bN Try.prog 67 XB := ak (by kernel_rfl) (by kernel_rfl) (by kernel_rfl) (by kernel_rfl) (by kernel_rfl) (by kernel_rfl) (by kernel_rfl) (by kernel_rfl) (by kernel_rfl) (by kernel_rfl) (by kernel_rfl) trivial
def XA : TI := ⟨1, 8, .other, [.cd], none⟩
theorem ag9 : bN Try.prog 68 XA := ak (by kernel_rfl) (by kernel_rfl) (by kernel_rfl) (by kernel_rfl) (by kernel_rfl) (by kernel_rfl) (by kernel_rfl) (by kernel_rfl) (by kernel_rfl) (by kernel_rfl) (by kernel_rfl) trivial
def Xz : TI := ⟨1, 8, .int .i64, [.int 0], some .int⟩
theorem ag8 : bN Try.prog 69 Xz := ak (by kernel_rfl) (by kernel_rfl) (by kernel_rfl) (by kernel_rfl) (by kernel_rfl) (by kernel_rfl) (by kernel_rfl) (by kernel_rfl) (by kernel_rfl) (by kernel_rfl) (by kernel_rfl) ⟨by kernel_rfl, by kernel_rfl, by kernel_rfl⟩
def Xy : TI := ⟨12, 96, .struct [(0, 24), (4, 24), (8, 24)], List.replicate 12 (.u64 0), some (.prod .elem (.prod .elem .elem))⟩
theorem ag7 : bN Try.prog 70 Xy := ak (by kernel_rfl) (by kernel_rfl) (by kernel_rfl) (by kernel_rfl) (by kernel_rfl) (by kernel_rfl) (by kernel_rfl) (by kernel_rfl) (by kernel_rfl) (by kernel_rfl) (by kernel_rfl) ⟨by kernel_rfl, by kernel_rfl, by kernel_rfl⟩
def Xx : TI := ⟨12, 96, .struct [(0, 24), (4, 24), (8, 24)], List.replicate 12 (.u64 0), some (.prod .elem (.prod .elem .elem))⟩
theorem ag6 : bN Try.prog 71 Xx := ak (by kernel_rfl) (by kernel_rfl) (by kernel_rfl) (by kernel_rfl) (by kernel_rfl) (by kernel_rfl) (by kernel_rfl) (by kernel_rfl) (by kernel_rfl) (by kernel_rfl) (by kernel_rfl) ⟨by kernel_rfl, by kernel_rfl, by kernel_rfl⟩
def Xw : TI := ⟨1, 8, .other, [.cd], none⟩
theorem ag5 : bN Try.prog 72 Xw := ak (by kernel_rfl) (by kernel_rfl) (by kernel_rfl) (by kernel_rfl) (by kernel_rfl) (by kernel_rfl) (by kernel_rfl) (by kernel_rfl) (by kernel_rfl) (by kernel_rfl) (by kernel_rfl) trivial
def Xv : TI := ⟨1, 8, .other, [.cd], none⟩
theorem ag4 : bN Try.prog 73 Xv := ak (by kernel_rfl) (by kernel_rfl) (by kernel_rfl) (by kernel_rfl) (by kernel_rfl) (by kernel_rfl) (by kernel_rfl) (by kernel_rfl) (by kernel_rfl) (by kernel_rfl) (by kernel_rfl) trivial
def Xu : TI := ⟨1, 8, .other, [.cd], none⟩
theorem ag3 : bN Try.prog 74 Xu := ak (by kernel_rfl) (by kernel_rfl) (by kernel_rfl) (by kernel_rfl) (by kernel_rfl) (by kernel_rfl) (by kernel_rfl) (by kernel_rfl) (by kernel_rfl) (by kernel_rfl) (by kernel_rfl) trivial
def Xt : TI := ⟨1, 8, .other, [.cd], none⟩
theorem ag2 : bN Try.prog 75 Xt := ak (by kernel_rfl) (by kernel_rfl) (by kernel_rfl) (by kernel_rfl) (by kernel_rfl) (by kernel_rfl) (by kernel_rfl) (by kernel_rfl) (by kernel_rfl) (by kernel_rfl) (by kernel_rfl) trivial
def Xs : TI := ⟨1, 8, .other, [.cd], none⟩
theorem ag1 : bN Try.prog 76 Xs := ak (by kernel_rfl) (by kernel_rfl) (by kernel_rfl) (by kernel_rfl) (by kernel_rfl) (by kernel_rfl) (by kernel_rfl) (by kernel_rfl) (by kernel_rfl) (by kernel_rfl) (by kernel_rfl) trivial
def Xr : TI := ⟨1, 8, .other, [.cd], none⟩
theorem ag0 : bN Try.prog 77 Xr := ak (by kernel_rfl) (by kernel_rfl) (by kernel_rfl) (by kernel_rfl) (by kernel_rfl) (by kernel_rfl) (by kernel_rfl) (by kernel_rfl) (by kernel_rfl) (by kernel_rfl) (by kernel_rfl) trivial
def Xq : TI := ⟨1, 8, .int .u64, [.u64 0], some .u64⟩
theorem agZ : bN Try.prog 78 Xq := ak (by kernel_rfl) (by kernel_rfl) (by kernel_rfl) (by kernel_rfl) (by kernel_rfl) (by kernel_rfl) (by kernel_rfl) (by kernel_rfl) (by kernel_rfl) (by kernel_rfl) (by kernel_rfl) ⟨by kernel_rfl, by kernel_rfl, by kernel_rfl⟩
def Xp : TI := ⟨1, 8, .other, [.cd], none⟩
theorem agY : bN Try.prog 80 Xp := ak (by kernel_rfl) (by kernel_rfl) (by kernel_rfl) (by kernel_rfl) (by kernel_rfl) (by kernel_rfl) (by kernel_rfl) (by kernel_rfl) (by kernel_rfl) (by kernel_rfl) (by kernel_rfl) trivial
def Xo : TI := ⟨1, 8, .other, [.cd], none⟩
theorem agX : bN Try.prog 82 Xo := ak (by kernel_rfl) (by kernel_rfl) (by kernel_rfl) (by kernel_rfl) (by kernel_rfl) (by kernel_rfl) (by kernel_rfl) (by kernel_rfl) (by kernel_rfl) (by kernel_rfl) (by kernel_rfl) trivial
def Xn : TI := ⟨1, 8, .other, [.cd], none⟩
theorem agW : bN Try.prog 83 Xn := ak (by kernel_rfl) (by kernel_rfl) (by kernel_rfl) (by kernel_rfl) (by kernel_rfl) (by kernel_rfl) (by kernel_rfl) (by kernel_rfl) (by kernel_rfl) (by kernel_rfl) (by kernel_rfl) trivial
def Xm : TI := ⟨2, 32, .struct [(0, 3), (1, 30)], [.int 0, .emp], some (.prod .int (.list (.prod .elem (.prod .elem (.prod .elem .bool)))))⟩
theorem agV : bN Try.prog 84 Xm := ak (by kernel_rfl) (by kernel_rfl) (by kernel_rfl) (by kernel_rfl) (by kernel_rfl) (by kernel_rfl) (by kernel_rfl) (by kernel_rfl) (by kernel_rfl) (by kernel_rfl) (by kernel_rfl) ⟨by kernel_rfl, by kernel_rfl, by kernel_rfl⟩
def Xl : TI := ⟨2, 32, .struct [(0, 3), (1, 30)], [.int 0, .emp], some (.prod .int (.list (.prod .elem (.prod .elem (.prod .elem .bool)))))⟩
theorem agU : bN Try.prog 85 Xl := ak (by kernel_rfl) (by kernel_rfl) (by kernel_rfl) (by kernel_rfl) (by kernel_rfl) (by kernel_rfl) (by kernel_rfl) (by kernel_rfl) (by kernel_rfl) (by kernel_rfl) (by kernel_rfl) ⟨by kernel_rfl, by kernel_rfl, by kernel_rfl⟩
def Xk : TI := ⟨1, 8, .other, [.cd], none⟩
theorem agT : bN Try.prog 86 Xk := ak (by kernel_rfl) (by kernel_rfl) (by kernel_rfl) (by kernel_rfl) (by kernel_rfl) (by kernel_rfl) (by kernel_rfl) (by kernel_rfl) (by kernel_rfl) (by kernel_rfl) (by kernel_rfl) trivial
def Xj : TI := ⟨1, 8, .other, [.cd], none⟩
theorem agS : bN Try.prog 87 Xj := ak (by kernel_rfl) (by kernel_rfl) (by kernel_rfl) (by kernel_rfl) (by kernel_rfl) (by kernel_rfl) (by kernel_rfl) (by kernel_rfl) (by kernel_rfl) (by kernel_rfl) (by kernel_rfl) trivial
def Xi : TI := ⟨1, 8, .other, [.cd], none⟩
theorem agR : bN Try.prog 88 Xi := ak (by kernel_rfl) (by kernel_rfl) (by kernel_rfl) (by kernel_rfl) (by kernel_rfl) (by kernel_rfl) (by kernel_rfl) (by kernel_rfl) (by kernel_rfl) (by kernel_rfl) (by kernel_rfl) trivial
def Xh : TI := ⟨1, 8, .other, [.cd], none⟩
theorem agQ : bN Try.prog 89 Xh := ak (by kernel_rfl) (by kernel_rfl) (by kernel_rfl) (by kernel_rfl) (by kernel_rfl) (by kernel_rfl) (by kernel_rfl) (by kernel_rfl) (by kernel_rfl) (by kernel_rfl) (by kernel_rfl) trivial
def Xg : TI := ⟨1, 8, .other, [.cd], none⟩
theorem agP : bN Try.prog 90 Xg := ak (by kernel_rfl) (by kernel_rfl) (by kernel_rfl) (by kernel_rfl) (by kernel_rfl) (by kernel_rfl) (by kernel_rfl) (by kernel_rfl) (by kernel_rfl) (by kernel_rfl) (by kernel_rfl) trivial
def Xf : TI := ⟨1, 8, .other, [.cd], none⟩
theorem agO : bN Try.prog 91 Xf := ak (by kernel_rfl) (by kernel_rfl) (by kernel_rfl) (by kernel_rfl) (by kernel_rfl) (by kernel_rfl) (by kernel_rfl) (by kernel_rfl) (by kernel_rfl) (by kernel_rfl) (by kernel_rfl) trivial
def Xe : TI := ⟨11, 88, .struct [(0, 24), (4, 3), (5, 22), (6, 22), (7, 24)], [.u64 0, .u64 0, .u64 0, .u64 0, .int 0, .u64 0, .u64 0, .u64 0, .u64 0, .u64 0, .u64 0], some (.prod .elem (.prod .int (.prod .u64 (.prod .u64 .elem))))⟩
theorem agN : bN Try.prog 92 Xe := ak (by kernel_rfl) (by kernel_rfl) (by kernel_rfl) (by kernel_rfl) (by kernel_rfl) (by kernel_rfl) (by kernel_rfl) (by kernel_rfl) (by kernel_rfl) (by kernel_rfl) (by kernel_rfl) ⟨by kernel_rfl, by kernel_rfl, by kernel_rfl⟩
def Xd : TI := ⟨11, 88, .struct [(0, 24), (4, 3), (5, 22), (6, 22), (7, 24)], [.u64 0, .u64 0, .u64 0, .u64 0, .int 0, .u64 0, .u64 0, .u64 0, .u64 0, .u64 0, .u64 0], some (.prod .elem (.prod .int (.prod .u64 (.prod .u64 .elem))))⟩
theorem agM : bN Try.prog 93 Xd := ak (by kernel_rfl) (by kernel_rfl) (by kernel_rfl) (by kernel_rfl) (by kernel_rfl) (by kernel_rfl) (by kernel_rfl) (by kernel_rfl) (by kernel_rfl) (by kernel_rfl) (by kernel_rfl) ⟨by kernel_rfl, by kernel_rfl, by kernel_rfl⟩
def Xc : TI := ⟨1, 8, .other, [.cd], none⟩
theorem agL : bN Try.prog 95 Xc := ak (by kernel_rfl) (by kernel_rfl) (by kernel_rfl) (by kernel_rfl) (by kernel_rfl) (by kernel_rfl) (by kernel_rfl) (by kernel_rfl) (by kernel_rfl) (by kernel_rfl) (by kernel_rfl) trivial
def Xb : TI := ⟨1, 8, .other, [.cd], none⟩
theorem agK : bN Try.prog 96 Xb := ak (by kernel_rfl) (by kernel_rfl) (by kernel_rfl) (by kernel_rfl) (by kernel_rfl) (by kernel_rfl) (by kernel_rfl) (by kernel_rfl) (by kernel_rfl) (by kernel_rfl) (by kernel_rfl) trivial
def Xa : TI := ⟨1, 8, .other, [.cd], none⟩
theorem agJ : bN Try.prog 97 Xa := ak (by kernel_rfl) (by kernel_rfl) (by kernel_rfl) (by kernel_rfl) (by kernel_rfl) (by kernel_rfl) (by kernel_rfl) (by kernel_rfl) (by kernel_rfl) (by kernel_rfl) (by kernel_rfl) trivial
def W9 : TI := ⟨1, 8, .other, [.cd], none⟩
theorem agI : bN Try.prog 98 W9 := ak (by kernel_rfl) (by kernel_rfl) (by kernel_rfl) (by kernel_rfl) (by kernel_rfl) (by kernel_rfl) (by kernel_rfl) (by kernel_rfl) (by kernel_rfl) (by kernel_rfl) (by kernel_rfl) trivial
def W8 : TI := ⟨1, 8, .other, [.cd], none⟩
theorem agH : bN Try.prog 99 W8 := ak (by kernel_rfl) (by kernel_rfl) (by kernel_rfl) (by kernel_rfl) (by kernel_rfl) (by kernel_rfl) (by kernel_rfl) (by kernel_rfl) (by kernel_rfl) (by kernel_rfl) (by kernel_rfl) trivial
def Q4 : TI := ⟨1, 8, .other, [.cd], none⟩
theorem adv : bN Try.prog 100 Q4 := ak (by kernel_rfl) (by kernel_rfl) (by kernel_rfl) (by kernel_rfl) (by kernel_rfl) (by kernel_rfl) (by kernel_rfl) (by kernel_rfl) (by kernel_rfl) (by kernel_rfl) (by kernel_rfl) trivial
def Q3 : TI := ⟨1, 8, .other, [.cd], none⟩
theorem adu : bN Try.prog 101 Q3 := ak (by kernel_rfl) (by kernel_rfl) (by kernel_rfl) (by kernel_rfl) (by kernel_rfl) (by kernel_rfl) (by kernel_rfl) (by kernel_rfl) (by kernel_rfl) (by kernel_rfl) (by kernel_rfl) trivial
def Q2 : TI := ⟨1, 8, .other, [.cd], none⟩
theorem adt : bN Try.prog 102 Q2 := ak (by kernel_rfl) (by kernel_rfl) (by kernel_rfl) (by kernel_rfl) (by kernel_rfl) (by kernel_rfl) (by kernel_rfl) (by kernel_rfl) (by kernel_rfl) (by kernel_rfl) (by kernel_rfl) trivial
def Q1 : TI := ⟨1, 8, .other, [.cd], none⟩
theorem ads : bN Try.prog 103 Q1 := ak (by kernel_rfl) (by kernel_rfl) (by kernel_rfl) (by kernel_rfl) (by kernel_rfl) (by kernel_rfl) (by kernel_rfl) (by kernel_rfl) (by kernel_rfl) (by kernel_rfl) (by kernel_rfl) trivial
def Q0 : TI := ⟨1, 8, .other, [.cd], none⟩
theorem adr : bN Try.prog 105 Q0 := ak (by kernel_rfl) (by kernel_rfl) (by kernel_rfl) (by kernel_rfl) (by kernel_rfl) (by kernel_rfl) (by kernel_rfl) (by kernel_rfl) (by kernel_rfl) (by kernel_rfl) (by kernel_rfl) trivial
def QZ : TI := ⟨1, 8, .other, [.cd], none⟩
theorem adq : bN Try.prog 107 QZ := ak (by kernel_rfl) (by kernel_rfl) (by kernel_rfl) (by kernel_rfl) (by kernel_rfl) (by kernel_rfl) (by kernel_rfl) (by kernel_rfl) (by kernel_rfl) (by kernel_rfl) (by kernel_rfl) trivial
def QY : TI := ⟨1, 8, .other, [.cd], none⟩
theorem adp : bN Try.prog 108 QY := ak (by kernel_rfl) (by kernel_rfl) (by kernel_rfl) (by kernel_rfl) (by kernel_rfl) (by kernel_rfl) (by kernel_rfl) (by kernel_rfl) (by kernel_rfl) (by kernel_rfl) (by kernel_rfl) trivial
def QX : TI := ⟨1, 8, .other, [.cd], none⟩
theorem ado : bN Try.prog 109 QX := ak (by kernel_rfl) (by kernel_rfl) (by kernel_rfl) (by kernel_rfl) (by kernel_rfl) (by kernel_rfl) (by kernel_rfl) (by kernel_rfl) (by kernel_rfl) (by kernel_rfl) (by kernel_rfl) trivial
def QW : TI := ⟨135, 1080, .array 15 26, (([.u64 0, .u64 0, .u64 0, .u64 0, .u64 0, .u64 0, .u64 0, .u64 0, .bool false, .u64 0, .u64 0, .u64 0, .u64 0, .u64 0, .u64 0, .u64 0, .u64 0, .bool false, .u64 0, .u64 0, .u64 0, .u64 0, .u64 0, .u64 0, .u64 0, .u64 0, .bool false, .u64 0, .u64 0, .u64 0, .u64 0, .u64 0, .u64 0, .u64 0, .u64 0, .bool false, .u64 0, .u64 0, .u64 0, .u64 0, .u64 0, .u64 0, .u64 0, .u64 0, .bool false, .u64 0, .u64 0, .u64 0, .u64 0, .u64 0] : List SV) ++ ([.u64 0, .u64 0, .u64 0, .bool false, .u64 0, .u64 0, .u64 0, .u64 0, .u64 0, .u64 0, .u64 0, .u64 0, .bool false, .u64 0, .u64 0, .u64 0, .u64 0, .u64 0, .u64 0, .u64 0, .u64 0, .bool false, .u64 0, .u64 0, .u64 0, .u64 0, .u64 0, .u64 0, .u64 0, .u64 0, .bool false, .u64 0, .u64 0, .u64 0, .u64 0, .u64 0, .u64 0, .u64 0, .u64 0, .bool false, .u64 0, .u64 0, .u64 0, .u64 0, .u64 0, .u64 0, .u64 0, .u64 0, .bool false, .u64 0] : List SV) ++ ([.u64 0, .u64 0, .u64 0, .u64 0, .u64 0, .u64 0, .u64 0, .bool false, .u64 0, .u64 0, .u64 0, .u64 0, .u64 0, .u64 0, .u64 0, .u64 0, .bool false, .u64 0, .u64 0, .u64 0, .u64 0, .u64 0, .u64 0, .u64 0, .u64 0, .bool false, .u64 0, .u64 0, .u64 0, .u64 0, .u64 0, .u64 0, .u64 0, .u64 0, .bool false] : List SV)), some (.arr 15 (.prod .elem (.prod .elem .bool)))⟩
theorem adn : bN Try.prog 110 QW := ak (by kernel_rfl) (by kernel_rfl) (by kernel_rfl) (by kernel_rfl) (by kernel_rfl) (by kernel_rfl) (by kernel_rfl) (by kernel_rfl) (by kernel_rfl) (by kernel_rfl) (by kernel_rfl) ⟨by kernel_rfl, by kernel_rfl, by kernel_rfl⟩
def QV : TI := ⟨4, 32, .array 4 3, [.int 0, .int 0, .int 0, .int 0], some (.arr 4 .int)⟩
theorem adm : bN Try.prog 111 QV := ak (by kernel_rfl) (by kernel_rfl) (by kernel_rfl) (by kernel_rfl) (by kernel_rfl) (by kernel_rfl) (by kernel_rfl) (by kernel_rfl) (by kernel_rfl) (by kernel_rfl) (by kernel_rfl) ⟨by kernel_rfl, by kernel_rfl, by kernel_rfl⟩
def QU : TI := ⟨6, 48, .array 6 22, [.u64 0, .u64 0, .u64 0, .u64 0, .u64 0, .u64 0], some (.arr 6 .u64)⟩
theorem adl : bN Try.prog 112 QU := ak (by kernel_rfl) (by kernel_rfl) (by kernel_rfl) (by kernel_rfl) (by kernel_rfl) (by kernel_rfl) (by kernel_rfl) (by kernel_rfl) (by kernel_rfl) (by kernel_rfl) (by kernel_rfl) ⟨by kernel_rfl, by kernel_rfl, by kernel_rfl⟩
def QT : TI := ⟨1, 8, .other, [.cd], none⟩
theorem adk : bN Try.prog 113 QT := ak (by kernel_rfl) (by kernel_rfl) (by kernel_rfl) (by kernel_rfl) (by kernel_rfl) (by kernel_rfl) (by kernel_rfl) (by kernel_rfl) (by kernel_rfl) (by kernel_rfl) (by kernel_rfl) trivial
def QS : TI := ⟨1, 24, .slice 22, [.emp], some (.list .u64)⟩
theorem adj : bN Try.prog 114 QS := ak (by kernel_rfl) (by kernel_rfl) (by kernel_rfl) (by kernel_rfl) (by kernel_rfl) (by kernel_rfl) (by kernel_rfl) (by kernel_rfl) (by kernel_rfl) (by kernel_rfl) (by kernel_rfl) ⟨by kernel_rfl, by kernel_rfl, by kernel_rfl⟩
def QR : TI := ⟨1, 8, .other, [.cd], none⟩
theorem adi : bN Try.prog 115 QR := ak (by kernel_rfl) (by kernel_rfl) (by kernel_rfl) (by kernel_rfl) (by kernel_rfl) (by kernel_rfl) (by kernel_rfl) (by kernel_rfl) (by kernel_rfl) (by kernel_rfl) (by kernel_rfl) trivial
def QQ : TI := ⟨1, 16, .iface, [.fB], none⟩
theorem adh : bN Try.prog 116 QQ := ak (by kernel_rfl) (by kernel_rfl) (by kernel_rfl) (by kernel_rfl) (by kernel_rfl) (by kernel_rfl) (by kernel_rfl) (by kernel_rfl) (by kernel_rfl) (by kernel_rfl) (by kernel_rfl) trivial
def QP : TI := ⟨1, 16, .iface, [.fB], none⟩
theorem adg : bN Try.prog 117 QP := ak (by kernel_rfl) (by kernel_rfl) (by kernel_rfl) (by kernel_rfl) (by kernel_rfl) (by kernel_rfl) (by kernel_rfl) (by kernel_rfl) (by kernel_rfl) (by kernel_rfl) (by kernel_rfl) trivial
def QO : TI := ⟨1, 8, .other, [.cd], none⟩
theorem adf : bN Try.prog 118 QO := ak (by kernel_rfl) (by kernel_rfl) (by kernel_rfl) (by kernel_rfl) (by kernel_rfl) (by kernel_rfl) (by kernel_rfl) (by kernel_rfl) (by kernel_rfl) (by kernel_rfl) (by kernel_rfl) trivial
def QN : TI := ⟨1, 8, .other, [.cd], none⟩
theorem ade : bN Try.prog 119 QN := ak (by kernel_rfl) (by kernel_rfl) (by kernel_rfl) (by kernel_rfl) (by kernel_rfl) (by kernel_rfl) (by kernel_rfl) (by kernel_rfl) (by kernel_rfl) (by kernel_rfl) (by kernel_rfl) trivial
def QM : TI := ⟨1, 8, .ptr [("Error", 136)], [.u5], none⟩
theorem adb : bN Try.prog 120 QM := ak (by kernel_rfl) (by kernel_rfl) (by kernel_rfl) (by kernel_rfl) (by kernel_rfl) (by kernel_rfl) (by kernel_rfl) (by kernel_rfl) (by kernel_rfl) (by kernel_rfl) (by kernel_rfl) trivial
def QL : TI := ⟨1, 8, .other, [.cd], none⟩
theorem ada : bN Try.prog 121 QL := ak (by kernel_rfl) (by kernel_rfl) (by kernel_rfl) (by kernel_rfl) (by kernel_rfl) (by kernel_rfl) (by kernel_rfl) (by kernel_rfl) (by kernel_rfl) (by kernel_rfl) (by kernel_rfl) trivial
def QK : TI := ⟨0, 0, .array 0 16, [], none⟩
theorem ac9 : bN Try.prog 124 QK := ak (by kernel_rfl) (by kernel_rfl) (by kernel_rfl) (by kernel_rfl) (by kernel_rfl) (by kernel_rfl) (by kernel_rfl) (by kernel_rfl) (by kernel_rfl) (by kernel_rfl) (by kernel_rfl) trivial
def QJ : TI := ⟨1, 8, .other, [.cd], none⟩
theorem ac8 : bN Try.prog 127 QJ := ak (by kernel_rfl) (by kernel_rfl) (by kernel_rfl) (by kernel_rfl) (by kernel_rfl) (by kernel_rfl) (by kernel_rfl) (by kernel_rfl) (by kernel_rfl) (by kernel_rfl) (by kernel_rfl) trivial
def QI : TI := ⟨1, 4, .int .u32, [.cd], none⟩
theorem ac7 : bN Try.prog 128 QI := ak (by kernel_rfl) (by kernel_rfl) (by kernel_rfl) (by kernel_rfl) (by kernel_rfl) (by kernel_rfl) (by kernel_rfl) (by kernel_rfl) (by kernel_rfl) (by kernel_rfl) (by kernel_rfl) trivial
def QH : TI := ⟨1, 1, .int .u8, [.u8 0], some .u8⟩
theorem ac6 : bN Try.prog 129 QH := ak (by kernel_rfl) (by kernel_rfl) (by kernel_rfl) (by kernel_rfl) (by kernel_rfl) (by kernel_rfl) (by kernel_rfl) (by kernel_rfl) (by kernel_rfl) (by kernel_rfl) (by kernel_rfl) ⟨by kernel_rfl, by kernel_rfl, by kernel_rfl⟩
def QG : TI := ⟨1, 1, .int .u8, [.u8 0], some .u8⟩
theorem ac5 : bN Try.prog 130 QG := ak (by kernel_rfl) (by kernel_rfl) (by kernel_rfl) (by kernel_rfl) (by kernel_rfl) (by kernel_rfl) (by kernel_rfl) (by kernel_rfl) (by kernel_rfl) (by kernel_rfl) (by kernel_rfl) ⟨by kernel_rfl, by kernel_rfl, by kernel_rfl⟩
def QF : TI := ⟨1, 8, .other, [.cd], none⟩
theorem ac4 : bN Try.prog 131 QF := ak (by kernel_rfl) (by kernel_rfl) (by kernel_rfl) (by kernel_rfl) (by kernel_rfl) (by kernel_rfl) (by kernel_rfl) (by kernel_rfl) (by kernel_rfl) (by kernel_rfl) (by kernel_rfl) trivial
def QE : TI := ⟨1, 8, .ptr [], [.u5], none⟩
theorem ac3 : bN Try.prog 132 QE := ak (by kernel_rfl) (by kernel_rfl) (by kernel_rfl) (by kernel_rfl) (by kernel_rfl) (by kernel_rfl) (by kernel_rfl) (by kernel_rfl) (by kernel_rfl) (by kernel_rfl) (by kernel_rfl) trivial
def QD : TI := ⟨1, 4, .int .i32, [.cd], none⟩
theorem ac2 : bN Try.prog 133 QD := ak (by kernel_rfl) (by kernel_rfl) (by kernel_rfl) (by kernel_rfl) (by kernel_rfl) (by kernel_rfl) (by kernel_rfl) (by kernel_rfl) (by kernel_rfl) (by kernel_rfl) (by kernel_rfl) trivial
def QC : TI := ⟨1, 4, .int .i32, [.cd], none⟩
theorem ac1 : bN Try.prog 134 QC := ak (by kernel_rfl) (by kernel_rfl) (by kernel_rfl) (by kernel_rfl) (by kernel_rfl) (by kernel_rfl) (by kernel_rfl) (by kernel_rfl) (by kernel_rfl) (by kernel_rfl) (by kernel_rfl) trivial
def QB : TI := ⟨1, 16, .struct [(0, 9)], [.str []], some .str⟩
theorem ac0 : bN Try.prog 137 QB := ak (by kernel_rfl) (by kernel_rfl) (by kernel_rfl) (by kernel_rfl) (by kernel_rfl) (by kernel_rfl) (by kernel_rfl) (by kernel_rfl) (by kernel_rfl) (by kernel_rfl) (by kernel_rfl) ⟨by kernel_rfl, by kernel_rfl, by kernel_rfl⟩
def QA : TI := ⟨1, 16, .struct [(0, 9)], [.str []], some .str⟩
theorem acZ : bN Try.prog 138 QA := ak (by kernel_rfl) (by kernel_rfl) (by kernel_rfl) (by kernel_rfl) (by kernel_rfl) (by kernel_rfl) (by kernel_rfl) (by kernel_rfl) (by kernel_rfl) (by kernel_rfl) (by kernel_rfl) ⟨by kernel_rfl, by kernel_rfl, by kernel_rfl⟩
def Qz : TI := ⟨1, 8, .other, [.u5], none⟩
theorem acY : bN Try.prog 139 Qz := ak (by kernel_rfl) (by kernel_rfl) (by kernel_rfl) (by kernel_rfl) (by kernel_rfl) (by kernel_rfl) (by kernel_rfl) (by kernel_rfl) (by kernel_rfl) (by kernel_rfl) (by kernel_rfl) trivial
def te : TE := (aw 1 afH (aw 2 afG (aw 3 afF (aw 4 afE (aw 5 afD (aw 6 afC (aw 7 afB (aw 8 afA (aw 9 afz (aw 10 Yq (aw 11 Yp (aw 12 Yo (aw 15 Yn (aw 16 Ym (aw 17 Yl (aw 20 Yk (aw 21 Yj (aw 22 Yi (aw 23 Yh (aw 24 Yg (aw 25 Yf (aw 26 Ye (aw 27 Yd (aw 28 Yc (aw 29 Yb (aw 30 F3 (aw 31 Ya (aw 32 zK (aw 33 X9 (aw 35 X8 (aw 36 X7 (aw 37 X6 (aw 38 X5 (aw 39 X4 (aw 40 X3 (aw 41 X0 (aw 42 XZ (aw 43 XY (aw 44 XX (aw 45 XW (aw 46 XV (aw 48 XU (aw 49 XT (aw 50 XS (aw 51 XR (aw 52 XQ (aw 53 XP (aw 54 XO (aw 55 XN (aw 56 XM (aw 57 XL (aw 58 XK (aw 59 XJ (aw 60 XI (aw 61 XH (aw 62 XG (aw 63 XF (aw 64 XE (aw 65 XD (aw 66 XC (aw 67 XB (aw 68 XA (aw 69 Xz (aw 70 Xy (aw 71 Xx (aw 72 Xw (aw 73 Xv (aw 74 Xu (aw 75 Xt (aw 76 Xs (aw 77 Xr (aw 78 Xq (aw 80 Xp (aw 82 Xo (aw 83 Xn (aw 84 Xm (aw 85 Xl (aw 86 Xk (aw 87 Xj (aw 88 Xi (aw 89 Xh (aw 90 Xg (aw 91 Xf (aw 92 Xe (aw 93 Xd (aw 95 Xc (aw 96 Xb (aw 97 Xa (aw 98 W9 (aw 99 W8 (aw 100 Q4 (aw 101 Q3 (aw 102 Q2 (aw 103 Q1 (aw 105 Q0 (aw 107 QZ (aw 108 QY (aw 109 QX (aw 110 QW (aw 111 QV (aw 112 QU (aw 113 QT (aw 114 QS (aw 115 QR (aw 116 QQ (aw 117 QP (aw 118 QO (aw 119 QN (aw 120 QM (aw 121 QL (aw 124 QK (aw 127 QJ (aw 128 QI (aw 129 QH (aw 130 QG (aw 131 QF (aw 132 QE (aw 133 QD (aw 134 QC (aw 137 QB (aw 138 QA (aw 139 Qz akB))))))))))))))))))))))))))))))))))))))))))))))))))))))))))))))))))))))))))))))))))))))))))))))))))))))))))))))))))))))))))
theorem au : jZ Try.prog te := (ae akA (ae akz (ae aky (ae akx (ae akw (ae akv (ae aku (ae akt (ae aks (ae ahZ (ae ahY (ae ahX (ae ahW (ae ahV (ae ahU (ae ahT (ae ahS (ae ahR (ae ahQ (ae ahP (ae ahO (ae ahN (ae ahM (ae ahL (ae ahK (ae ahJ (ae ahI (ae ahH (ae ahG (ae ahF (ae ahE (ae ahD (ae ahC (ae ahB (ae ahA (ae ahz (ae ahy (ae ahx (ae ahw (ae ahv (ae ahu (ae aht (ae ahs (ae ahr (ae ahq (ae ahp (ae aho (ae ahn (ae ahm (ae ahl (ae ahk (ae ahj (ae ahi (ae ahh (ae ahg (ae ahf (ae ahe (ae ahd (ae ahc (ae ahb (ae aha (ae ag9 (ae ag8 (ae ag7 (ae ag6 (ae ag5 (ae ag4 (ae ag3 (ae ag2 (ae ag1 (ae ag0 (ae agZ (ae agY (ae agX (ae agW (ae agV (ae agU (ae agT (ae agS (ae agR (ae agQ (ae agP (ae agO (ae agN (ae agM (ae agL (ae agK (ae agJ (ae agI (ae agH (ae adv (ae adu (ae adt (ae ads (ae adr (ae adq (ae adp (ae ado (ae adn (ae adm (ae adl (ae adk (ae adj (ae adi (ae adh (ae adg (ae adf (ae ade (ae adb (ae ada (ae ac9 (ae ac8 (ae ac7 (ae ac6 (ae ac5 (ae ac4 (ae ac3 (ae ac2 (ae ac1 (ae ac0 (ae acZ (ae acY adw))))))))))))))))))))))))))))))))))))))))))))))))))))))))))))))))))))))))))))))))))))))))))))))))))))))))))))))))))))))))))
theorem follows : Try.prog.follows .mixedOrders = true := by kernel_rfl
def E0 : Env := abA
theorem amE : aW Try.prog E0 := abz
theorem ajY : av E0 := Pf
end Go.Proofs.Ytkedomfjjahjnaa

namespace Go.Proofs.Ytkedomfjjahjnaa
open Sx Go
def Sx.aa.nat (e : aa) : Nat := e.w0.toNat + 18446744073709551616 * (e.w1.toNat + 18446744073709551616 * (e.w2.toNat + 18446744073709551616 * e.w3.toNat))
def ofN (n : Nat) : aa := ⟨UInt64.ofNat n, UInt64.ofNat (n / 18446744073709551616), UInt64.ofNat (n / 18446744073709551616 / 18446744073709551616), UInt64.ofNat (n / 18446744073709551616 / 18446744073709551616 / 18446744073709551616)⟩
def qw (x y c : UInt64) : UInt64 := UInt64.ofNat ((x.toNat + y.toNat + c.toNat) % 18446744073709551616)
def sE (x y c : UInt64) : UInt64 := UInt64.ofNat ((x.toNat + y.toNat + c.toNat) / 18446744073709551616)
def lY (x y c : UInt64) : UInt64 := UInt64.ofNat ((x.toNat + 18446744073709551616 - y.toNat - c.toNat) % 18446744073709551616)
def IG (x y c : UInt64) : UInt64 := UInt64.ofNat (if x.toNat < y.toNat + c.toNat then 1 else 0)
def acQ (x y : UInt64) : UInt64 := UInt64.ofNat (x.toNat * y.toNat / 18446744073709551616)
theorem fI (x : UInt64) (k : Nat) (hk : k < 64) : (bq x (k : Int)).toNat = x.toNat / 2 ^ k := by
  unfold bq
  rw [if_pos (by omega), UInt64.toNat_shiftRight, UInt64.toNat_ofNat', Int.toNat_natCast, Nat.shiftRight_eq_div_pow]
  congr 2
  omega
theorem kJ (x : UInt64) (k : Nat) (hk : k < 64) : (cu x (k : Int)).toNat = x.toNat * 2 ^ k % 2 ^ 64 := by
  unfold cu
  rw [if_pos (by omega), UInt64.toNat_shiftLeft, UInt64.toNat_ofNat', Int.toNat_natCast, Nat.shiftLeft_eq]
  congr 3
  omega
theorem gQ (x : UInt64) : (x &&& 4294967295).toNat = x.toNat % 4294967296 := by
  rw [UInt64.toNat_and]
  exact Nat.and_two_pow_sub_one_eq_mod x.toNat 32
theorem akT (a b : UInt64) : bq a 32 * bq b 32 + bq (bq a 32 * (b &&& 4294967295) + bq ((a &&& 4294967295) * (b &&& 4294967295)) 32) 32 +
    bq (((bq a 32 * (b &&& 4294967295) + bq ((a &&& 4294967295) * (b &&& 4294967295)) 32) &&& 4294967295) + (a &&& 4294967295) * bq b 32) 32 = acQ a b := by
  have ha := a.toNat_lt
  have hb := b.toNat_lt
  obtain ⟨h1, h2, h3, h4⟩ := Lib.mul64_hi a.toNat b.toNat ha hb
  have s32 : ∀ x : UInt64, (bq x 32).toNat = x.toNat / 4294967296 := fun x => fI x 32 (by omega)
  have hx := Lib.half_mul_le (a := a.toNat / 4294967296) (b := b.toNat / 4294967296) (by omega) (by omega)
  have hy := Lib.half_mul_le (a := a.toNat / 4294967296) (b := b.toNat % 4294967296) (by omega) (by omega)
  have hz := Lib.half_mul_le (a := a.toNat % 4294967296) (b := b.toNat / 4294967296) (by omega) (by omega)
  have e0 : ((a &&& 4294967295) * (b &&& 4294967295)).toNat = a.toNat % 4294967296 * (b.toNat % 4294967296) := by
    rw [UInt64.toNat_mul, gQ, gQ, Nat.mod_eq_of_lt h1]
  have e1 : (bq a 32 * (b &&& 4294967295) + bq ((a &&& 4294967295) * (b &&& 4294967295)) 32).toNat = a.toNat / 4294967296 * (b.toNat % 4294967296) + a.toNat % 4294967296 * (b.toNat % 4294967296) / 4294967296 := by
    rw [UInt64.toNat_add, UInt64.toNat_mul, s32, s32, gQ, e0, Nat.mod_eq_of_lt (a := a.toNat / 4294967296 * (b.toNat % 4294967296)) (by omega), Nat.mod_eq_of_lt h2]
  have e2 : (((bq a 32 * (b &&& 4294967295) + bq ((a &&& 4294967295) * (b &&& 4294967295)) 32) &&& 4294967295) + (a &&& 4294967295) * bq b 32).toNat =
      (a.toNat / 4294967296 * (b.toNat % 4294967296) + a.toNat % 4294967296 * (b.toNat % 4294967296) / 4294967296) % 4294967296 + a.toNat % 4294967296 * (b.toNat / 4294967296) := by
    rw [UInt64.toNat_add, UInt64.toNat_mul, gQ, gQ, s32, e1, Nat.mod_eq_of_lt (a := a.toNat % 4294967296 * (b.toNat / 4294967296)) (by omega), Nat.mod_eq_of_lt h3]
  have hq : a.toNat * b.toNat / 18446744073709551616 < 18446744073709551616 := by
    rw [Nat.div_lt_iff_lt_mul (by omega)]
    exact Nat.mul_lt_mul'' ha hb
  rw [← UInt64.toNat_inj, UInt64.toNat_add, UInt64.toNat_add, UInt64.toNat_mul, s32, s32, s32, s32, e1, e2]
  have e3 : (acQ a b).toNat = a.toNat * b.toNat / 18446744073709551616 := by
    unfold acQ
    rw [UInt64.toNat_ofNat', Nat.mod_eq_of_lt hq]
  rw [e3, ← h4]
  rw [← h4] at hq
  omega
def akb (h l y : UInt64) : UInt64 := UInt64.ofNat ((h.toNat * 18446744073709551616 + l.toNat) / y.toNat)
def Ll (h l y : UInt64) : UInt64 := UInt64.ofNat ((h.toNat * 18446744073709551616 + l.toNat) % y.toNat)
theorem ae6 {m A B N : Nat} (hm : 0 < m) (e : N = A + m * B) : N / m = B + A / m ∧ N % m = A % m := by
  subst e
  exact ⟨by rw [Nat.add_mul_div_left _ _ hm, Nat.add_comm], Nat.add_mul_mod_self_left ..⟩
theorem HK {m N u t q r K L : Nat} (hm : 0 < m) (hL : 0 < L) (hu : N = u * K + t) (hq : u = q * (m * L) + r) :
    N / m = q * (L * K) + ((r * K + t) * L) / (m * L) ∧ N % m = ((r * K + t) * L) % (m * L) / L := by
  have e : N = (r * K + t) + m * (q * (L * K)) := by
    have h1 : q * (m * L) * K = m * (q * (L * K)) := by
      rw [Nat.mul_assoc q, Nat.mul_assoc m, Nat.mul_left_comm m q]
    rw [hu, hq, Nat.add_mul, h1]
    omega
  obtain ⟨h1, h2⟩ := ae6 hm e
  rw [h1, h2, Nat.mul_div_mul_right _ _ hL, Nat.mul_mod_mul_right, Nat.mul_div_cancel _ hL]
  exact ⟨rfl, rfl⟩
theorem jU (x y c : UInt64) : x.toNat + y.toNat + c.toNat = (qw x y c).toNat + 18446744073709551616 * (sE x y c).toNat := by
  have hx := x.toNat_lt
  have hy := y.toNat_lt
  have hc := c.toNat_lt
  unfold qw sE
  rw [UInt64.toNat_ofNat', UInt64.toNat_ofNat', Nat.mod_eq_of_lt (b := 2 ^ 64) (by omega), Nat.mod_eq_of_lt (b := 2 ^ 64) (by omega)]
  omega
theorem wS {x y c : UInt64} (hc : c.toNat ≤ 1) : (sE x y c).toNat ≤ 1 := by
  have hx := x.toNat_lt
  have hy := y.toNat_lt
  unfold sE
  rw [UInt64.toNat_ofNat', Nat.mod_eq_of_lt (by omega)]
  omega
theorem sO (x y c : UInt64) : (IG x y c).toNat = if x.toNat < y.toNat + c.toNat then 1 else 0 := by
  unfold IG
  rw [UInt64.toNat_ofNat']
  split <;> rfl
theorem ve {x y c : UInt64} : (IG x y c).toNat ≤ 1 := by
  rw [sO]
  split <;> omega
theorem sP {x y c : UInt64} (hc : c.toNat ≤ 1) : x.toNat + 18446744073709551616 * (IG x y c).toNat = (lY x y c).toNat + y.toNat + c.toNat := by
  have hx := x.toNat_lt
  have hy := y.toNat_lt
  rw [sO]
  unfold lY
  rw [UInt64.toNat_ofNat', Nat.mod_eq_of_lt (b := 2 ^ 64) (by omega)]
  split <;> omega
theorem fU (e : aa) : e.nat < 115792089237316195423570985008687907853269984665640564039457584007913129639936 := by
  have h0 := e.w0.toNat_lt
  have h1 := e.w1.toNat_lt
  have h2 := e.w2.toNat_lt
  have h3 := e.w3.toNat_lt
  unfold Sx.aa.nat
  omega
theorem va {a b X Y : Nat} (ha : a < 18446744073709551616) (hb : b < 18446744073709551616) (h : a + 18446744073709551616 * X = b + 18446744073709551616 * Y) : a = b ∧ X = Y := by
  omega
theorem js {e f : aa} (h : e.nat = f.nat) : e = f := by
  unfold Sx.aa.nat at h
  obtain ⟨h0, h⟩ := va e.w0.toNat_lt f.w0.toNat_lt h
  obtain ⟨h1, h⟩ := va e.w1.toNat_lt f.w1.toNat_lt h
  obtain ⟨h2, h3⟩ := va e.w2.toNat_lt f.w2.toNat_lt h
  obtain ⟨a, b, c, d⟩ := e
  obtain ⟨a', b', c', d'⟩ := f
  simp only at h0 h1 h2 h3
  rw [UInt64.toNat_inj.1 h0, UInt64.toNat_inj.1 h1, UInt64.toNat_inj.1 h2, UInt64.toNat_inj.1 h3]
theorem div_eq {n a b : Nat} (ha : a < 18446744073709551616) (h : n = a + 18446744073709551616 * b) : n / 18446744073709551616 = b ∧ n % 18446744073709551616 = a := by
  omega
theorem ZV {n : Nat} {a b c d : UInt64} {k : Nat} (h : n = a.toNat + 18446744073709551616 * (b.toNat + 18446744073709551616 * (c.toNat + 18446744073709551616 * (d.toNat + 18446744073709551616 * k)))) : ofN n = ⟨a, b, c, d⟩ := by
  obtain ⟨h1, h0⟩ := div_eq a.toNat_lt h
  obtain ⟨h2, h3⟩ := div_eq b.toNat_lt h1
  obtain ⟨h4, h5⟩ := div_eq c.toNat_lt h2
  have h6 : n / 18446744073709551616 / 18446744073709551616 / 18446744073709551616 % 18446744073709551616 = d.toNat := by
    rw [h4]
    have := d.toNat_lt
    omega
  unfold ofN
  have e : ∀ (m : Nat) (x : UInt64), m % 18446744073709551616 = x.toNat → UInt64.ofNat m = x := fun m x hm => by
    rw [← UInt64.toNat_inj, UInt64.toNat_ofNat']
    exact hm
  rw [e _ a h0, e _ b h3, e _ c h5, e _ d h6]
theorem N8 (n : Nat) : (ofN n).nat = n % 115792089237316195423570985008687907853269984665640564039457584007913129639936 := by
  unfold ofN aa.nat
  simp only [UInt64.toNat_ofNat']
  rw [show (2 : Nat) ^ 64 = 18446744073709551616 from rfl]
  omega
theorem gG {n : Nat} (h : n < 115792089237316195423570985008687907853269984665640564039457584007913129639936) : (ofN n).nat = n := by
  rw [N8]
  exact Nat.mod_eq_of_lt h
theorem px (e : aa) : ofN e.nat = e := js (gG (fU e))
def sF (a b : aa) : aa × Bool := (ofN (a.nat + b.nat), Nat.ble 115792089237316195423570985008687907853269984665640564039457584007913129639936 (a.nat + b.nat))
def kx (a b : aa) : aa × Bool := (ofN (a.nat + 115792089237316195423570985008687907853269984665640564039457584007913129639936 - b.nat), Nat.blt a.nat b.nat)
theorem Ii {x y c s k X Y R : Nat} (h1 : x + y + c = s + 18446744073709551616 * k) (h2 : X + Y + k = R) : (x + 18446744073709551616 * X) + (y + 18446744073709551616 * Y) + c = s + 18446744073709551616 * R := by
  omega
theorem F5 {x y c s k X Y R Q : Nat} (h1 : x + 18446744073709551616 * k = s + y + c) (h2 : X + 18446744073709551616 * Q = R + Y + k) : (x + 18446744073709551616 * X) + 18446744073709551616 * (18446744073709551616 * Q) = s + 18446744073709551616 * R + (y + 18446744073709551616 * Y) + c := by
  omega
theorem DZ (a b : aa) : let k0 := sE a.w0 b.w0 0; let k1 := sE a.w1 b.w1 k0; let k2 := sE a.w2 b.w2 k1; let k3 := sE a.w3 b.w3 k2
    (k0.toNat ≤ 1 ∧ k1.toNat ≤ 1 ∧ k2.toNat ≤ 1) ∧ sF a b = (⟨qw a.w0 b.w0 0, qw a.w1 b.w1 k0, qw a.w2 b.w2 k1, qw a.w3 b.w3 k2⟩, !(k3 == 0)) := by
  intro k0 k1 k2 k3
  have l0 : k0.toNat ≤ 1 := wS (by decide)
  have l1 : k1.toNat ≤ 1 := wS l0
  have l2 : k2.toNat ≤ 1 := wS l1
  have l3 : k3.toNat ≤ 1 := wS l2
  refine ⟨⟨l0, l1, l2⟩, ?_⟩
  have h := Ii (jU a.w0 b.w0 0) (Ii (jU a.w1 b.w1 k0) (Ii (jU a.w2 b.w2 k1) (jU a.w3 b.w3 k2)))
  rw [show (0 : UInt64).toNat = 0 from rfl, Nat.add_zero] at h
  unfold sF
  have hn : a.nat + b.nat = (qw a.w0 b.w0 0).toNat + 18446744073709551616 * ((qw a.w1 b.w1 k0).toNat + 18446744073709551616 * ((qw a.w2 b.w2 k1).toNat + 18446744073709551616 * ((qw a.w3 b.w3 k2).toNat + 18446744073709551616 * k3.toNat))) := h
  rw [ZV hn]
  congr 1
  have hs := fU ⟨qw a.w0 b.w0 0, qw a.w1 b.w1 k0, qw a.w2 b.w2 k1, qw a.w3 b.w3 k2⟩
  unfold Sx.aa.nat at hs
  simp only at hs
  have hk : k3.toNat = 0 ∨ k3.toNat = 1 := by omega
  rcases hk with hk | hk
  · have e : k3 = 0 := UInt64.toNat_inj.1 hk
    rw [hk] at hn
    rw [e]
    cases hb : Nat.ble 115792089237316195423570985008687907853269984665640564039457584007913129639936 (a.nat + b.nat)
    · rfl
    · have := Nat.le_of_ble_eq_true hb
      omega
  · have e : (k3 == 0) = false := by
      have : ¬ k3 = 0 := fun e => by rw [e] at hk; cases hk
      simpa using this
    rw [hk] at hn
    rw [e]
    exact Nat.ble_eq_true_of_le (by omega)
theorem D1 (a b : aa) : let k0 := IG a.w0 b.w0 0; let k1 := IG a.w1 b.w1 k0; let k2 := IG a.w2 b.w2 k1; let k3 := IG a.w3 b.w3 k2
    (k0.toNat ≤ 1 ∧ k1.toNat ≤ 1 ∧ k2.toNat ≤ 1) ∧ kx a b = (⟨lY a.w0 b.w0 0, lY a.w1 b.w1 k0, lY a.w2 b.w2 k1, lY a.w3 b.w3 k2⟩, !(k3 == 0)) := by
  intro k0 k1 k2 k3
  have l0 : k0.toNat ≤ 1 := ve
  have l1 : k1.toNat ≤ 1 := ve
  have l2 : k2.toNat ≤ 1 := ve
  have l3 : k3.toNat ≤ 1 := ve
  refine ⟨⟨l0, l1, l2⟩, ?_⟩
  have h := F5 (sP (x := a.w0) (y := b.w0) (c := 0) (by decide)) (F5 (sP (x := a.w1) (y := b.w1) l0) (F5 (sP (x := a.w2) (y := b.w2) l1) (sP (x := a.w3) (y := b.w3) l2)))
  rw [show (0 : UInt64).toNat = 0 from rfl, Nat.add_zero] at h
  unfold kx
  have hs := fU ⟨lY a.w0 b.w0 0, lY a.w1 b.w1 k0, lY a.w2 b.w2 k1, lY a.w3 b.w3 k2⟩
  have h' : a.nat + 18446744073709551616 * (18446744073709551616 * (18446744073709551616 * (18446744073709551616 * k3.toNat))) = aa.nat ⟨lY a.w0 b.w0 0, lY a.w1 b.w1 k0, lY a.w2 b.w2 k1, lY a.w3 b.w3 k2⟩ + b.nat := h
  have ha := fU a
  have hb := fU b
  have hS := fU ⟨lY a.w0 b.w0 0, lY a.w1 b.w1 k0, lY a.w2 b.w2 k1, lY a.w3 b.w3 k2⟩
  have e1 : ofN (a.nat + 115792089237316195423570985008687907853269984665640564039457584007913129639936 - b.nat) = ⟨lY a.w0 b.w0 0, lY a.w1 b.w1 k0, lY a.w2 b.w2 k1, lY a.w3 b.w3 k2⟩ := by
    apply js
    rw [N8]
    generalize aa.nat ⟨lY a.w0 b.w0 0, lY a.w1 b.w1 k0, lY a.w2 b.w2 k1, lY a.w3 b.w3 k2⟩ = S at *
    omega
  rw [e1]
  congr 1
  generalize aa.nat ⟨lY a.w0 b.w0 0, lY a.w1 b.w1 k0, lY a.w2 b.w2 k1, lY a.w3 b.w3 k2⟩ = S at *
  have hk : k3.toNat = 0 ∨ k3.toNat = 1 := by omega
  rcases hk with hk | hk
  · have e : k3 = 0 := UInt64.toNat_inj.1 hk
    rw [hk] at h'
    rw [e]
    cases hq : Nat.blt a.nat b.nat
    · rfl
    · have := cC hq
      omega
  · have e : (k3 == 0) = false := by
      have : ¬ k3 = 0 := fun e => by rw [e] at hk; cases hk
      simpa using this
    rw [hk] at h'
    rw [e]
    exact Nat.ble_eq_true_of_le (show a.nat + 1 ≤ b.nat by omega)
def lst (e : aa) : List UInt64 := [e.w0, e.w1, e.w2, e.w3]
def elemOf (l : List UInt64) : aa := ⟨l.getD 0 0, l.getD 1 0, l.getD 2 0, l.getD 3 0⟩
theorem aZ {l : List UInt64} (h : l.length = 4) : lst (elemOf l) = l := by
  match l, h with
  | [a, b, c, d], _ => rfl
theorem VV (e : aa) : elemOf (lst e) = e := rfl
theorem cJ (e : aa) : (lst e).length = 4 := rfl
theorem mJ {h l y : UInt64} (hy : 0 < y.toNat) : (Ll h l y).toNat = (h.toNat * 18446744073709551616 + l.toNat) % y.toNat := by
  unfold Ll
  rw [UInt64.toNat_ofNat']
  exact Nat.mod_eq_of_lt (Nat.lt_trans (Nat.mod_lt _ hy) y.toNat_lt)
theorem G5 (r x m : Nat) : (r % m * 18446744073709551616 + x) % m = (r * 18446744073709551616 + x) % m := by
  rw [Nat.add_mod, Nat.mul_mod, Nat.mod_mod, ← Nat.mul_mod, ← Nat.add_mod]
theorem lW {a b : aa} (h : b.nat ≤ a.nat) : (kx a b).1.nat = a.nat - b.nat := by
  have ha := fU a
  show (ofN _).nat = _
  rw [N8]
  omega
theorem PJ {w N r : Nat} (hr : r < 64) : (w + 18446744073709551616 * N) / 2 ^ r % 2 = w / 2 ^ r % 2 := by
  have e : 18446744073709551616 * N = 2 ^ r * (2 * (2 ^ (63 - r) * N)) := by
    rw [← Nat.mul_assoc, ← Nat.mul_assoc, Nat.mul_comm (2 ^ r) 2, Nat.mul_assoc 2, ← Nat.pow_add, show r + (63 - r) = 63 by omega]
  rw [e, Nat.add_mul_div_left _ _ (Nat.two_pow_pos r), Nat.add_mul_mod_self_left]
theorem u9 {w N : Nat} (hw : w < 18446744073709551616) (r : Nat) : (w + 18446744073709551616 * N) / 2 ^ (64 + r) = N / 2 ^ r := by
  rw [Nat.pow_add, ← Nat.div_div_eq_div_mul, show 2 ^ 64 = 18446744073709551616 from rfl, show (w + 18446744073709551616 * N) / 18446744073709551616 = N by omega]
theorem Tt {a : aa} {q r : Nat} (hq : q < 4) (hr : r < 64) : ((lst a).getD q 0).toNat / 2 ^ r % 2 = a.nat / 2 ^ (64 * q + r) % 2 := by
  have h0 := a.w0.toNat_lt
  have h1 := a.w1.toNat_lt
  have h2 := a.w2.toNat_lt
  unfold Sx.aa.nat
  have hq' : q = 0 ∨ q = 1 ∨ q = 2 ∨ q = 3 := by omega
  rcases hq' with rfl | rfl | rfl | rfl
  · rw [Nat.mul_zero, Nat.zero_add, PJ hr]; rfl
  · rw [show 64 * 1 + r = 64 + r by omega, u9 h0, PJ hr]; rfl
  · rw [show 64 * 2 + r = 64 + (64 + r) by omega, u9 h0, u9 h1, PJ hr]; rfl
  · rw [show 64 * 3 + r = 64 + (64 + (64 + r)) by omega, u9 h0, u9 h1, u9 h2]; rfl
end Go.Proofs.Ytkedomfjjahjnaa

namespace Go.Proofs.Ytkedomfjjahjnaa
open Sx Go
set_option maxRecDepth 100000
def Ig : ap := ⟨[.val false .u64, .val false .u64, .val false .u64], [], true, 0, false⟩
abbrev acy : Type := ((UInt64) × (UInt64) × (UInt64) × Unit) × (Unit)
def acx : az := ⟨[.val false .u64, .val false .u64], [], false⟩
def wP (x : acy) : Bool := decide (x.1.2.2.1.toNat ≤ 1)
def Tv (x : acy) : OT Ig.Y := .ok ⟨acx, ((qw x.1.1 x.1.2.1 x.1.2.2.1, sE x.1.1 x.1.2.1 x.1.2.2.1, ()), ())⟩
theorem Wp (a b c : UInt64) (hc : c.toNat ≤ 1) (w : World) : (callFunc 114 #[fG a, fG b, fG c]).run Try.prog w = .ok (.value (.tuple #[fG (qw a b c), fG (sE a b c)])) w := by
  unfold fG
  rw [run_callFunc_extern Try.func114 (by kernel_rfl) (by kernel_rfl) (by kernel_rfl) (e := add64Entry) (by kernel_rfl), run_add64 (a.toNat : Int) (b.toNat : Int) (c.toNat : Int) (by omega) (by omega) (by omega) (by omega)]
  have ha := a.toNat_lt
  have hb := b.toNat_lt
  have e1 : (((qw a b c).toNat : Nat) : Int) = ((a.toNat : Int) + b.toNat + c.toNat) % 18446744073709551616 := by
    unfold qw
    rw [UInt64.toNat_ofNat', Nat.mod_eq_of_lt (by omega)]
    omega
  have e2 : (((sE a b c).toNat : Nat) : Int) = ((a.toNat : Int) + b.toNat + c.toNat) / 18446744073709551616 := by
    unfold sE
    rw [UInt64.toNat_ofNat', Nat.mod_eq_of_lt (by omega)]
    omega
  rw [e1, e2]
  rfl
theorem acw : ab Try.prog 114 (Ig.aK wP Tv) := by
  refine aga (k := 0) (by kernel_rfl) fun x oy vs N w hp ho hr => ?_
  obtain ⟨⟨a, b, c, ⟨⟩⟩, ⟨⟩⟩ := x
  cases ho
  have hc : c.toNat ≤ 1 := of_decide_eq_true hp
  have hr' : SV.bK N [.u64 a, .u64 b, .u64 c] vs := hr
  simp only [SV.bK, SV.rel] at hr'
  obtain ⟨_, _, rfl, rfl, _, _, rfl, rfl, _, _, rfl, rfl, rfl⟩ := hr'
  refine ⟨.tup [.u64 (qw a b c), .u64 (sE a b c)], _, Wp a b c hc w, ?_, ⟨rfl, by kernel_rfl⟩⟩
  simp only [SV.rel]
  exact ⟨_, rfl, by simp only [SV.bK, SV.rel]; exact ⟨_, _, rfl, rfl, _, _, rfl, rfl, rfl⟩⟩
def rW : cK := (Ig.aK wP Tv)
theorem L9 : ab Try.prog 114 rW := acw
theorem L8 : aL rW := aD
def IE : Env := aA 114 rW E0
theorem Qj : aW Try.prog IE := ag L9 amE
theorem ID : av IE := ac L8 ajY
def H4 : ap := ⟨[.val false .u64, .val false .u64, .val false .u64], [], true, 0, false⟩
abbrev aci : Type := ((UInt64) × (UInt64) × (UInt64) × Unit) × (Unit)
def ach : az := ⟨[.val false .u64, .val false .u64], [], false⟩
def wI (x : aci) : Bool := decide (x.1.2.2.1.toNat ≤ 1)
def Tn (x : aci) : OT H4.Y := .ok ⟨ach, ((lY x.1.1 x.1.2.1 x.1.2.2.1, IG x.1.1 x.1.2.1 x.1.2.2.1, ()), ())⟩
def afI : Array Value → Sem Value := fun args => do
  let (x, y, b) ← Extern.MathBitsCarry.three "Sub64" args
  pure (Extern.MathBitsCarry.pair ((x + Extern.MathBitsCarry.m64 - y - b) % Extern.MathBitsCarry.m64) (if x < y + b then 1 else 0))
theorem TW {P : Program} (x y b : Nat) (hb : b ≤ 1) (w : World) :
    (afI #[.int .u64 x, .int .u64 y, .int .u64 b]).run P w =
      .ok (.tuple #[.int .u64 (((x + 18446744073709551616 - y - b) % 18446744073709551616 : Nat) : Int), .int .u64 ((if x < y + b then 1 else 0 : Nat) : Int)]) w := by
  have : b = 0 ∨ b = 1 := by omega
  rcases this with rfl | rfl <;> rfl
theorem Wn (a b c : UInt64) (hc : c.toNat ≤ 1) (w : World) : (callFunc 109 #[fG a, fG b, fG c]).run Try.prog w = .ok (.value (.tuple #[fG (lY a b c), fG (IG a b c)])) w := by
  unfold fG
  rw [run_callFunc_extern Try.func109 (by kernel_rfl) (by kernel_rfl) (by kernel_rfl) (e := afI) (by kernel_rfl), TW a.toNat b.toNat c.toNat (by omega)]
  have ha := a.toNat_lt
  have hb := b.toNat_lt
  have e1 : (lY a b c).toNat = (a.toNat + 18446744073709551616 - b.toNat - c.toNat) % 18446744073709551616 := by
    unfold lY
    rw [UInt64.toNat_ofNat', Nat.mod_eq_of_lt (by omega)]
  have e2 : (IG a b c).toNat = if a.toNat < b.toNat + c.toNat then 1 else 0 := by
    unfold IG
    rw [UInt64.toNat_ofNat', Nat.mod_eq_of_lt (by split <;> omega)]
  rw [e1, e2]
  rfl
theorem acg : ab Try.prog 109 (H4.aK wI Tn) := by
  refine aga (k := 0) (by kernel_rfl) fun x oy vs N w hp ho hr => ?_
  obtain ⟨⟨a, b, c, ⟨⟩⟩, ⟨⟩⟩ := x
  cases ho
  have hc : c.toNat ≤ 1 := of_decide_eq_true hp
  have hr' : SV.bK N [.u64 a, .u64 b, .u64 c] vs := hr
  simp only [SV.bK, SV.rel] at hr'
  obtain ⟨_, _, rfl, rfl, _, _, rfl, rfl, _, _, rfl, rfl, rfl⟩ := hr'
  refine ⟨.tup [.u64 (lY a b c), .u64 (IG a b c)], _, Wn a b c hc w, ?_, ⟨rfl, by kernel_rfl⟩⟩
  simp only [SV.rel]
  exact ⟨_, rfl, by simp only [SV.bK, SV.rel]; exact ⟨_, _, rfl, rfl, _, _, rfl, rfl, rfl⟩⟩
def rS : cK := (H4.aK wI Tn)
theorem LK : ab Try.prog 109 rS := acg
theorem LJ : aL rS := aD
def uZ : Env := aA 109 rS IE
theorem su : aW Try.prog uZ := ag LK Qj
theorem uY : av uZ := ac LJ ID
theorem MF : bm Try.prog te uZ := aP follows au su uY
def gx : ap := ⟨[.val false .u64, .val false .u64], [], true, 0, false⟩
abbrev wK : Type := ((UInt64) × (UInt64) × Unit) × (Unit)
def Co : az := ⟨[.val false .u64, .val false .u64], [], false⟩
def Fx : SV → Option az := fun _ => some Co
def zq (a0 : UInt64) (a1 : UInt64) : OT gx.Y :=
  let z0 : UInt64 := bq a0 (32 : Int)
  let z1 : UInt64 := bq a1 (32 : Int)
  let z2 : UInt64 := z0 * (a1 &&& (4294967295 : UInt64)) + bq ((a0 &&& (4294967295 : UInt64)) * (a1 &&& (4294967295 : UInt64))) (32 : Int)
  (.ok ⟨Co, ((z0 * z1 + bq z2 (32 : Int) + bq ((z2 &&& (4294967295 : UInt64)) + (a0 &&& (4294967295 : UInt64)) * z1) (32 : Int), (a0 * a1, ())), ())⟩)
theorem afn (x : wK) (Q : gx.Y → Prop) : wpf te uZ ay 1000 Try.f118 (gx.inp.inj x).tm (gx.inp.inj x).hp (fnK gx Fx Q) (fun _ _ => False) = (zq (x.1.1) (x.1.2.1)).wpR Q := by kernel_rfl
theorem PD (pre : wK → Bool) (F : wK → OT gx.Y) (hF : ∀ (x : wK) oy, pre x = true → (F x).run = some oy → (zq (x.1.1) (x.1.2.1)).run = some oy) : ab Try.prog 118 (gx.aK pre F) :=
  aE au su MF (f := 118) (fn := Try.f118) (c := al Try.f118) (by kernel_rfl) (by kernel_rfl) (by kernel_rfl) (S := gx) (k := 0) (by kernel_rfl) (fun R hR => af) (n := 1000) (sel := Fx) (fun v o h => by cases h; rfl) (pre := pre) (F := F) (T := fun x => zq (x.1.1) (x.1.2.1)) (fun x Q => afn x Q) hF
def Fy (_ : wK) : Bool := true
def H5 (x : wK) : OT gx.Y := .ok ⟨Co, ((acQ x.1.1 x.1.2.1, (x.1.1 * x.1.2.1, ())), ())⟩
theorem acj : ab Try.prog 118 (gx.aK Fy H5) := PD _ _ fun x oy _ ho => by
  rw [← ho]
  simp only [H5, zq, akT]
def rT : cK := (gx.aK Fy H5)
theorem LN : ab Try.prog 118 rT := acj
theorem LM : aL rT := aD
def u1 : Env := aA 118 rT uZ
theorem sw : aW Try.prog u1 := ag LN su
theorem u0 : av u1 := ac LM uY
theorem MG : bm Try.prog te u1 := aP follows au sw u0
def gy : ap := ⟨[.val false .u64], [], true, 0, false⟩
abbrev wN : Type := ((UInt64) × Unit) × (Unit)
def dX : az := ⟨[.val false .int], [], false⟩
def FA : SV → Option az := fun _ => some dX
def ue (a0 : UInt64) : OT gy.Y :=
  let z0 : UInt64 := bq a0 (32 : Int)
  let z1 : UInt64 := bq z0 (16 : Int)
  let z2 : Int := (↑(UInt8.toNat (UInt64.toUInt8 (bq z1 (8 : Int)))) : Int)
  let z3 : List UInt8 := List.replicate 64 (8 : UInt8)
  let z4 : List UInt8 := List.append (List.append [(0 : UInt8), (1 : UInt8), (2 : UInt8), (2 : UInt8), (3 : UInt8), (3 : UInt8), (3 : UInt8), (3 : UInt8), (4 : UInt8), (4 : UInt8), (4 : UInt8), (4 : UInt8), (4 : UInt8), (4 : UInt8), (4 : UInt8), (4 : UInt8), (5 : UInt8), (5 : UInt8), (5 : UInt8), (5 : UInt8), (5 : UInt8), (5 : UInt8), (5 : UInt8), (5 : UInt8), (5 : UInt8), (5 : UInt8), (5 : UInt8), (5 : UInt8), (5 : UInt8), (5 : UInt8), (5 : UInt8), (5 : UInt8), (6 : UInt8), (6 : UInt8), (6 : UInt8), (6 : UInt8), (6 : UInt8), (6 : UInt8), (6 : UInt8), (6 : UInt8), (6 : UInt8), (6 : UInt8), (6 : UInt8), (6 : UInt8), (6 : UInt8), (6 : UInt8), (6 : UInt8), (6 : UInt8), (6 : UInt8), (6 : UInt8), (6 : UInt8), (6 : UInt8), (6 : UInt8), (6 : UInt8), (6 : UInt8), (6 : UInt8), (6 : UInt8), (6 : UInt8), (6 : UInt8), (6 : UInt8), (6 : UInt8), (6 : UInt8), (6 : UInt8), (6 : UInt8)] (List.replicate 64 (7 : UInt8))) (List.append z3 z3)
  let z5 : Int := (56 : Int) + (↑(UInt8.toNat (List.getD z4 (Int.toNat z2) (0 : UInt8))) : Int)
  let z6 : Int := (↑(UInt8.toNat (UInt64.toUInt8 z1)) : Int)
  let z7 : Int := (48 : Int) + (↑(UInt8.toNat (List.getD z4 (Int.toNat z6) (0 : UInt8))) : Int)
  let z8 : Int := (↑(UInt8.toNat (UInt64.toUInt8 (bq z0 (8 : Int)))) : Int)
  let z9 : Int := (40 : Int) + (↑(UInt8.toNat (List.getD z4 (Int.toNat z8) (0 : UInt8))) : Int)
  let z10 : Int := (↑(UInt8.toNat (UInt64.toUInt8 z0)) : Int)
  let z11 : Int := (32 : Int) + (↑(UInt8.toNat (List.getD z4 (Int.toNat z10) (0 : UInt8))) : Int)
  let z12 : UInt64 := bq a0 (16 : Int)
  let z13 : Int := (↑(UInt8.toNat (UInt64.toUInt8 (bq z12 (8 : Int)))) : Int)
  let z14 : Int := (24 : Int) + (↑(UInt8.toNat (List.getD z4 (Int.toNat z13) (0 : UInt8))) : Int)
  let z15 : Int := (↑(UInt8.toNat (UInt64.toUInt8 z12)) : Int)
  let z16 : Int := (16 : Int) + (↑(UInt8.toNat (List.getD z4 (Int.toNat z15) (0 : UInt8))) : Int)
  let z17 : Int := (↑(UInt8.toNat (UInt64.toUInt8 (bq a0 (8 : Int)))) : Int)
  let z18 : Int := (8 : Int) + (↑(UInt8.toNat (List.getD z4 (Int.toNat z17) (0 : UInt8))) : Int)
  let z19 : Int := (↑(UInt8.toNat (UInt64.toUInt8 a0)) : Int)
  let z20 : Int := (0 : Int) + (↑(UInt8.toNat (List.getD z4 (Int.toNat z19) (0 : UInt8))) : Int)
  (.br (decide ((4294967296 : UInt64) ≤ a0))
  (.br (decide ((65536 : UInt64) ≤ z0))
    (.br (decide ((256 : UInt64) ≤ z1))
      (gd [inB z2 256, inR z5] (.ok ⟨dX, ((z5, ()), ())⟩))
      (gd [inB z6 256, inR z7] (.ok ⟨dX, ((z7, ()), ())⟩)))
    (.br (decide ((256 : UInt64) ≤ z0))
      (gd [inB z8 256, inR z9] (.ok ⟨dX, ((z9, ()), ())⟩))
      (gd [inB z10 256, inR z11] (.ok ⟨dX, ((z11, ()), ())⟩))))
  (.br (decide ((65536 : UInt64) ≤ a0))
    (.br (decide ((256 : UInt64) ≤ z12))
      (gd [inB z13 256, inR z14] (.ok ⟨dX, ((z14, ()), ())⟩))
      (gd [inB z15 256, inR z16] (.ok ⟨dX, ((z16, ()), ())⟩)))
    (.br (decide ((256 : UInt64) ≤ a0))
      (gd [inB z17 256, inR z18] (.ok ⟨dX, ((z18, ()), ())⟩))
      (gd [inB z19 256, inR z20] (.ok ⟨dX, ((z20, ()), ())⟩)))))
theorem afp (x : wN) (Q : gy.Y → Prop) : wpf te u1 ay 1000 Try.f119 (gy.inp.inj x).tm (gy.inp.inj x).hp (fnK gy FA Q) (fun _ _ => False) = (ue (x.1.1)).wpR Q := by kernel_rfl
theorem PH (pre : wN → Bool) (F : wN → OT gy.Y) (hF : ∀ (x : wN) oy, pre x = true → (F x).run = some oy → (ue (x.1.1)).run = some oy) : ab Try.prog 119 (gy.aK pre F) :=
  aE au sw MG (f := 119) (fn := Try.f119) (c := al Try.f119) (by kernel_rfl) (by kernel_rfl) (by kernel_rfl) (S := gy) (k := 0) (by kernel_rfl) (fun R hR => af) (n := 1000) (sel := FA) (fun v o h => by cases h; rfl) (pre := pre) (F := F) (T := fun x => ue (x.1.1)) (fun x Q => afp x Q) hF
def eH (x : UInt64) : Bool := (x == 16513537) || (x == 16521217)
theorem df {x : UInt64} (h : eH x = true) : x = 16513537 ∨ x = 16521217 := by
  simpa [eH] using h
def wM (x : wN) : Bool := eH x.1.1
def Tq (_ : wN) : OT gy.Y := .ok ⟨dX, (((24 : Int), ()), ())⟩
theorem LS : (ue 16513537).run = some ⟨dX, (((24 : Int), ()), ())⟩ ∧ (ue 16521217).run = some ⟨dX, (((24 : Int), ()), ())⟩ := ⟨by kernel_rfl, by kernel_rfl⟩
theorem acm : ab Try.prog 119 (gy.aK wM Tq) := PH _ _ fun x oy hp ho => by
  rw [← ho]
  clear ho
  obtain ⟨⟨x, ⟨⟩⟩, ⟨⟩⟩ := x
  rcases df hp with h | h
  · have h : x = 16513537 := h
    subst h
    exact LS.1
  · have h : x = 16521217 := h
    subst h
    exact LS.2
def rU : cK := (gy.aK wM Tq)
theorem LR : ab Try.prog 119 rU := acm
theorem LQ : aL rU := aD
def u3 : Env := aA 119 rU u1
theorem sB : aW Try.prog u3 := ag LR sw
theorem u2 : av u3 := ac LQ u0
theorem MH : bm Try.prog te u3 := aP follows au sB u2
def jQ : ap := ⟨[.val false .u64], [], true, 0, false⟩
abbrev Fz : Type := ((UInt64) × Unit) × (Unit)
def H6 : az := ⟨[.val false .int], [], false⟩
def LO : SV → Option az := fun _ => some H6
def PG (a0 : UInt64) : OT jQ.Y :=
  (gd [wM ((a0, ()), ())] (.ok ⟨H6, (((40 : Int), ()), ())⟩))
theorem ajR (x : Fz) (Q : jQ.Y → Prop) : wpf te u3 ay 1000 Try.f117 (jQ.inp.inj x).tm (jQ.inp.inj x).hp (fnK jQ LO Q) (fun _ _ => False) = (PG (x.1.1)).wpR Q := by kernel_rfl
theorem Wo (pre : Fz → Bool) (F : Fz → OT jQ.Y) (hF : ∀ (x : Fz) oy, pre x = true → (F x).run = some oy → (PG (x.1.1)).run = some oy) : ab Try.prog 117 (jQ.aK pre F) :=
  aE au sB MH (f := 117) (fn := Try.f117) (c := al Try.f117) (by kernel_rfl) (by kernel_rfl) (by kernel_rfl) (S := jQ) (k := 0) (by kernel_rfl) (fun R hR => af) (n := 1000) (sel := LO) (fun v o h => by cases h; rfl) (pre := pre) (F := F) (T := fun x => PG (x.1.1)) (fun x Q => ajR x Q) hF
def Cp (x : Fz) : Bool := eH x.1.1
def ack (_ : Fz) : OT jQ.Y := .ok ⟨H6, (((40 : Int), ()), ())⟩
theorem afo : ab Try.prog 117 (jQ.aK Cp ack) := Wo _ _ fun x oy hp ho => by
  rw [← ho]
  clear ho
  obtain ⟨⟨x, ⟨⟩⟩, ⟨⟩⟩ := x
  have hp : eH x = true := hp
  refine (ai ?_).trans rfl
  simp only [List.all_cons, List.all_nil, Bool.and_true, Bool.and_eq_true]
  first | exact hp | exact ⟨hp, rfl⟩
def wL : cK := (jQ.aK Cp ack)
theorem PF : ab Try.prog 117 wL := afo
theorem PE : aL wL := aD
def sA : Env := aA 117 wL u3
theorem lU : aW Try.prog sA := ag PF sB
theorem yH : av sA := ac PE u2
theorem sy : bm Try.prog te sA := aP follows au lU yH
def fk : ap := ⟨[.val false .u64, .val false .u64, .val false .u64], [], true, 0, false⟩
abbrev wO : Type := ((UInt64) × (UInt64) × (UInt64) × Unit) × (Unit)
def oM : Shape := ⟨135, [(2, .val false .u64), (8, .val false .u64), (9, .val false .u64), (10, .val false .u64), (11, .val false .u64), (13, .val false .u64), (14, .val false .u64), (15, .val false .u64), (16, .val false .u64)], [], 0, true⟩
abbrev cb : Type := ((UInt64) × (UInt64) × (UInt64) × (UInt64) × (UInt64) × (UInt64) × (UInt64) × (UInt64) × (UInt64) × Unit) × (Unit)
def jT : Shape := ⟨135, [(2, .val false .u64), (8, .val false .u64), (9, .val false .u64), (10, .val false .u64), (11, .val false .u64), (13, .val false .u64), (14, .val false .u64), (15, .val false .u64)], [], 0, true⟩
abbrev ib : Type := ((UInt64) × (UInt64) × (UInt64) × (UInt64) × (UInt64) × (UInt64) × (UInt64) × (UInt64) × Unit) × (Unit)
def LY : SE → Option Shape := ku [(0, jT)] none
def acv (a2 : UInt64) (a8 : UInt64) (a9 : UInt64) (a10 : UInt64) (a11 : UInt64) (a13 : UInt64) (a14 : UInt64) (a15 : UInt64) (a16 : UInt64) : OT (Sum cb aQ) :=
  let z0 : Bool := decide ((4294967296 : UInt64) ≤ a16 + a9)
  (.br (decide ((4294967296 : UInt64) ≤ a15))
  (.br (z0)
    (.ok (.inr ⟨(.exit 0, jT), ((a2, (a8, (a9, (a10, (a11, (a13, (a14, (a15 - (1 : UInt64), ())))))))), ())⟩))
    (.ok (.inl ((a2, (a8, (a9, (a10, (a11, (a13, (a14, (a15 - (1 : UInt64), (a16 + a9, ()))))))))), ()))))
  (.br (decide ((4294967296 : UInt64) * a16 + a13 < a15 * a10))
    (.br (z0)
      (.ok (.inr ⟨(.exit 0, jT), ((a2, (a8, (a9, (a10, (a11, (a13, (a14, (a15 - (1 : UInt64), ())))))))), ())⟩))
      (.ok (.inl ((a2, (a8, (a9, (a10, (a11, (a13, (a14, (a15 - (1 : UInt64), (a16 + a9, ()))))))))), ()))))
    (.ok (.inr ⟨(.exit 0, jT), ((a2, (a8, (a9, (a10, (a11, (a13, (a14, (a15, ())))))))), ())⟩))))
def uk (s : cb) : OT (Sum cb aQ) := acv (s.1.1) (s.1.2.1) (s.1.2.2.1) (s.1.2.2.2.1) (s.1.2.2.2.2.1) (s.1.2.2.2.2.2.1) (s.1.2.2.2.2.2.2.1) (s.1.2.2.2.2.2.2.2.1) (s.1.2.2.2.2.2.2.2.2.1)
theorem acp (s : cb) (Q : Sum cb aQ → Prop) : wps te sA ay 1000 (bJ (al Try.f113) 0) (oM.inj s) (cW oM LY (Q : Sum oM.T aQ → Prop)) = (uk s).wpR Q := by kernel_rfl
def ui (g0_0 : cb → ib) (s : cb) : OT aQ := (.ok ⟨(.exit 0, jT), g0_0 s⟩)
def oL : Shape := ⟨135, [(2, .val false .u64), (8, .val false .u64), (9, .val false .u64), (10, .val false .u64), (14, .val false .u64), (15, .val false .u64), (16, .val false .u64), (17, .val false .u64), (18, .val false .u64)], [], 0, true⟩
abbrev ca : Type := ((UInt64) × (UInt64) × (UInt64) × (UInt64) × (UInt64) × (UInt64) × (UInt64) × (UInt64) × (UInt64) × Unit) × (Unit)
def jS : Shape := ⟨135, [(2, .val false .u64), (8, .val false .u64), (14, .val false .u64), (15, .val false .u64), (17, .val false .u64), (18, .val false .u64)], [], 0, true⟩
abbrev ia : Type := ((UInt64) × (UInt64) × (UInt64) × (UInt64) × (UInt64) × (UInt64) × Unit) × (Unit)
def LX : SE → Option Shape := ku [(2, jS)] none
def acu (a2 : UInt64) (a8 : UInt64) (a9 : UInt64) (a10 : UInt64) (a14 : UInt64) (a15 : UInt64) (a16 : UInt64) (a17 : UInt64) (a18 : UInt64) : OT (Sum ca aQ) :=
  let z0 : Bool := decide ((4294967296 : UInt64) ≤ a16 + a9)
  (.br (decide ((4294967296 : UInt64) ≤ a18))
  (.br (z0)
    (.ok (.inr ⟨(.exit 2, jS), ((a2, (a8, (a14, (a15, (a17, (a18 - (1 : UInt64), ())))))), ())⟩))
    (.ok (.inl ((a2, (a8, (a9, (a10, (a14, (a15, (a16 + a9, (a17, (a18 - (1 : UInt64), ()))))))))), ()))))
  (.br (decide ((4294967296 : UInt64) * a16 + a14 < a18 * a10))
    (.br (z0)
      (.ok (.inr ⟨(.exit 2, jS), ((a2, (a8, (a14, (a15, (a17, (a18 - (1 : UInt64), ())))))), ())⟩))
      (.ok (.inl ((a2, (a8, (a9, (a10, (a14, (a15, (a16 + a9, (a17, (a18 - (1 : UInt64), ()))))))))), ()))))
    (.ok (.inr ⟨(.exit 2, jS), ((a2, (a8, (a14, (a15, (a17, (a18, ())))))), ())⟩))))
def uj (s : ca) : OT (Sum ca aQ) := acu (s.1.1) (s.1.2.1) (s.1.2.2.1) (s.1.2.2.2.1) (s.1.2.2.2.2.1) (s.1.2.2.2.2.2.1) (s.1.2.2.2.2.2.2.1) (s.1.2.2.2.2.2.2.2.1) (s.1.2.2.2.2.2.2.2.2.1)
theorem aco (s : ca) (Q : Sum ca aQ → Prop) : wps te sA ay 1000 (bJ (al Try.f113) 2) (oL.inj s) (cW oL LX (Q : Sum oL.T aQ → Prop)) = (uj s).wpR Q := by kernel_rfl
def uh (g2_2 : ca → ia) (s : ca) : OT aQ := (.ok ⟨(.exit 2, jS), g2_2 s⟩)
def lK : az := ⟨[.val false .u64, .val false .u64], [], false⟩
def FB : SV → Option az := fun _ => some lK
def zt (ok0 : cb → Bool) (g0_0 : cb → ib) (ok2 : ca → Bool) (g2_2 : ca → ia) (a0 : UInt64) (a1 : UInt64) (a2 : UInt64) : OT fk.Y :=
  let z0 : Bool := !a2 == (0 : UInt64)
  let z1 : UInt64 := cu a2 (40 : Int)
  let z2 : UInt64 := bq z1 (32 : Int)
  let z3 : UInt64 := cu a0 (40 : Int) ||| bq a1 (24 : Int)
  let z4 : UInt64 := cu a1 (40 : Int)
  let z5 : UInt64 := z3 / z2
  let z6 : (UInt64 × UInt64 × UInt64 × UInt64 × UInt64 × UInt64 × UInt64 × UInt64 × UInt64 × PUnit) × PUnit := ((z1, (40 : UInt64), z2, z1 &&& (4294967295 : UInt64), z3, bq z4 (32 : Int), z4 &&& (4294967295 : UInt64), z5, z3 - z5 * z2, ()), ())
  let z7 := (g0_0 z6).fst
  let z8 := z7.snd
  let z9 := z8.snd
  let z10 := z9.fst
  let z11 := z7.fst
  let z12 := z9.snd
  let z13 := z12.snd
  let z14 := z13.snd
  let z15 := z14.snd
  let z16 := z15.snd.fst
  let z17 : UInt64 := z13.fst * (4294967296 : UInt64) + z14.fst - z16 * z11
  let z18 : UInt64 := z17 / z10
  let z19 : (UInt64 × UInt64 × UInt64 × UInt64 × UInt64 × UInt64 × UInt64 × UInt64 × UInt64 × PUnit) × PUnit := ((z11, z8.fst, z10, z12.fst, z15.fst, z16, z17 - z18 * z10, z17, z18, ()), ())
  let z20 := (g2_2 z19).fst
  let z21 := z20.snd
  let z22 := z21.snd
  let z23 := z22.snd
  let z24 := z23.snd
  let z25 := z24.snd.fst
  (.br (a2 == (0 : UInt64))
  .fail
  (.br (decide (a2 ≤ a0))
    .fail
    (.br (a0 == (0 : UInt64))
      (gd [z0, z0] (.ok ⟨lK, ((a1 / a2, (a1 % a2, ())), ())⟩))
      (gd [Cp ((a2, ()), ()), !z2 == (0 : UInt64), ok0 z6, !z10 == (0 : UInt64), ok2 z19] (.ok ⟨lK, ((z23.fst * (4294967296 : UInt64) + z25, (bq (z24.fst * (4294967296 : UInt64) + z22.fst - z25 * z20.fst) (↑(UInt64.toNat z21.fst) : Int), ())), ())⟩)))))
theorem afq (ok0 : cb → Bool) (g0_0 : cb → ib) (ok2 : ca → Bool) (g2_2 : ca → ia) (x : wO) (Q : fk.Y → Prop) : wpf te sA (bx 2 (dw oL 2 ok2 (uh g2_2)) (bx 0 (dw oM 0 ok0 (ui g0_0)) ay)) 1000 Try.f113 (fk.inp.inj x).tm (fk.inp.inj x).hp (fnK fk FB Q) (fun _ _ => False) = (zt ok0 g0_0 ok2 g2_2 (x.1.1) (x.1.2.1) (x.1.2.2.1)).wpR Q := by kernel_rfl
theorem PM (ok0 : cb → Bool) (g0_0 : cb → ib) (ok2 : ca → Bool) (g2_2 : ca → ia) (h0 : ∀ s : cb, ok0 s = true → ∃ m e, aq (uk) m s = some e ∧ (ui g0_0 s).run = some e) (h2 : ∀ s : ca, ok2 s = true → ∃ m e, aq (uj) m s = some e ∧ (uh g2_2 s).run = some e) (pre : wO → Bool) (F : wO → OT fk.Y) (hF : ∀ (x : wO) oy, pre x = true → (F x).run = some oy → (zt ok0 g0_0 ok2 g2_2 (x.1.1) (x.1.2.1) (x.1.2.2.1)).run = some oy) : ab Try.prog 113 (fk.aK pre F) :=
  aE au lU sy (f := 113) (fn := Try.f113) (c := al Try.f113) (by kernel_rfl) (by kernel_rfl) (by kernel_rfl) (S := fk) (k := 0) (by kernel_rfl) (fun R hR => (aI (c := (al Try.f113)) (by kernel_rfl) (id := 2) (by kernel_rfl) (bA au lU sy (sh := oL) hR (xs := LX) (aH (by kernel_rfl) (by kernel_rfl) hR) aX af (n := 1000) (T := uj) (fun s Q => aco s Q) (ok := ok2) (f := uh g2_2) h2) (aI (c := (al Try.f113)) (by kernel_rfl) (id := 0) (by kernel_rfl) (bA au lU sy (sh := oM) hR (xs := LY) (aH (by kernel_rfl) (by kernel_rfl) hR) aX af (n := 1000) (T := uk) (fun s Q => acp s Q) (ok := ok0) (f := ui g0_0) h0) af))) (n := 1000) (sel := FB) (fun v o h => by cases h; rfl) (pre := pre) (F := F) (T := fun x => zt ok0 g0_0 ok2 g2_2 (x.1.1) (x.1.2.1) (x.1.2.2.1)) (fun x Q => afq ok0 g0_0 ok2 g2_2 x Q) hF
def FD (s : cb) : Bool := decide (s.1.2.2.2.1 = 0 ∧ s.1.2.2.2.2.2.2.2.1 < 4294967296)
def L5 (s : cb) : ib := ((s.1.1, s.1.2.1, s.1.2.2.1, s.1.2.2.2.1, s.1.2.2.2.2.1, s.1.2.2.2.2.2.1, s.1.2.2.2.2.2.2.1, s.1.2.2.2.2.2.2.2.1, ()), ())
theorem Az {a b : UInt64} (h : b < a) : decide (a ≤ b) = false := decide_eq_false (by rw [UInt64.le_iff_toNat_le, UInt64.lt_iff_toNat_lt] at *; omega)
theorem not_lt_zero {a b : UInt64} : decide (a < b * 0) = false := decide_eq_false (by
  have : b * 0 = 0 := by rw [← UInt64.toNat_inj]; simp
  rw [this, UInt64.lt_iff_toNat_lt]
  exact Nat.not_lt_zero _)
theorem acs : ∀ s : cb, FD s = true → ∃ m e, aq uk m s = some e ∧ (ui L5 s).run = some e := by
  rintro ⟨⟨a2, a8, a9, a10, a11, a13, a14, a15, a16, ⟨⟩⟩, ⟨⟩⟩ h
  have h' := of_decide_eq_true h
  dsimp only at h'
  obtain ⟨rfl, hl⟩ := h'
  exact ⟨1, _, aT ((OT.ax (Az hl)).trans (OT.ax not_lt_zero)), rfl⟩
def FC (s : ca) : Bool := decide (s.1.2.2.2.1 = 0 ∧ s.1.2.2.2.2.2.2.2.2.1 < 4294967296)
def L4 (s : ca) : ia := ((s.1.1, s.1.2.1, s.1.2.2.2.2.1, s.1.2.2.2.2.2.1, s.1.2.2.2.2.2.2.2.1, s.1.2.2.2.2.2.2.2.2.1, ()), ())
theorem acr : ∀ s : ca, FC s = true → ∃ m e, aq uj m s = some e ∧ (uh L4 s).run = some e := by
  rintro ⟨⟨a2, a8, a9, a10, a14, a15, a16, a17, a18, ⟨⟩⟩, ⟨⟩⟩ h
  have h' := of_decide_eq_true h
  dsimp only at h'
  obtain ⟨rfl, hl⟩ := h'
  exact ⟨1, _, aT ((OT.ax (Az hl)).trans (OT.ax not_lt_zero)), rfl⟩
def qc (x : wO) : Bool := eH x.1.2.2.1 && decide (x.1.1 < x.1.2.2.1)
def Ic (x : wO) : OT fk.Y := .ok ⟨lK, ((akb x.1.1 x.1.2.1 x.1.2.2.1, Ll x.1.1 x.1.2.1 x.1.2.2.1, ()), ())⟩
theorem WT {v z : Nat} (hv : v < 4294967296) (hz : z < 4294967296) : (v * 4294967296 % 2 ^ 64 + z) % 2 ^ 64 = (v * (256 * 16777216) + z) % 2 ^ 64 := by
  rw [Nat.mod_eq_of_lt (a := v * 4294967296) (by omega)]
theorem acT {s : Nat} (hs : s < 4294967296) : s * 4294967296 / 2 ^ 40 = s / 256 % 2 ^ 64 := by
  rw [Nat.mod_eq_of_lt (by omega), show (2 : Nat) ^ 40 = 256 * 4294967296 from rfl, Nat.mul_div_mul_right _ _ (by omega)]
theorem LZ {h l y : UInt64} {m : Nat} (hm : y.toNat = m) (hy : (cu y 40).toNat = m * 1099511627776) (hy1 : (bq (cu y 40) 32).toNat = m * 256) (hy0 : cu y 40 &&& 4294967295 = 0) (hm0 : 0 < m) (hm1 : m < 16777216) (hh : h.toNat < m) :
    let u := cu h 40 ||| bq l 24
    let q1 := u / bq (cu y 40) 32
    let un21 := u * 4294967296 + bq (cu l 40) 32 - q1 * cu y 40
    let q0 := un21 / bq (cu y 40) 32
    q1 < 4294967296 ∧ q0 < 4294967296 ∧ q1 * 4294967296 + q0 = akb h l y ∧ bq (un21 * 4294967296 + (cu l 40 &&& 4294967295) - q0 * cu y 40) 40 = Ll h l y := by
  intro u q1 un21 q0
  have hl := l.toNat_lt
  have hu : u.toNat = h.toNat * 1099511627776 + l.toNat / 16777216 := by
    have e1 : (cu h 40).toNat = h.toNat * 1099511627776 := by
      rw [show ((40 : Int)) = ((40 : Nat) : Int) from rfl, kJ _ _ (by omega)]
      exact Nat.mod_eq_of_lt (by omega)
    have e2 : (bq l 24).toNat = l.toNat / 16777216 := fI l 24 (by omega)
    simp only [u]
    rw [UInt64.toNat_or, e1, e2, Nat.mul_comm]
    have := Nat.two_pow_add_eq_or_of_lt (i := 40) (b := l.toNat / 16777216) (by omega) h.toNat
    exact this.symm
  have hun1 : (bq (cu l 40) 32).toNat = l.toNat % 16777216 * 256 := by
    rw [show ((32 : Int)) = ((32 : Nat) : Int) from rfl, fI _ _ (by omega), show ((40 : Int)) = ((40 : Nat) : Int) from rfl, kJ _ _ (by omega)]
    omega
  have hun0 : cu l 40 &&& 4294967295 = 0 := by
    rw [← UInt64.toNat_inj, gQ, show ((40 : Int)) = ((40 : Nat) : Int) from rfl, kJ _ _ (by omega)]
    show l.toNat * 2 ^ 40 % 2 ^ 64 % 4294967296 = 0
    omega
  have hq1 : q1.toNat = u.toNat / (m * 256) := by simp only [q1]; rw [UInt64.toNat_div, hy1]
  have hN : h.toNat * 18446744073709551616 + l.toNat = u.toNat * 16777216 + l.toNat % 16777216 := by rw [hu]; omega
  have hqr : u.toNat = q1.toNat * (m * 256) + u.toNat % (m * 256) := by
    rw [hq1, Nat.mul_comm]
    exact (Nat.div_add_mod _ _).symm
  have hr : u.toNat % (m * 256) < m * 256 := Nat.mod_lt _ (by omega)
  have hul : u.toNat < m * 256 * 4294967296 := by rw [hu]; omega
  have hq1l : q1.toNat < 4294967296 := by rw [hq1]; exact Nat.div_lt_of_lt_mul hul
  generalize hrr : u.toNat % (m * 256) = r at *
  have hprod : q1.toNat * (m * 1099511627776) = q1.toNat * (m * 256) * 4294967296 := by
    rw [Nat.mul_assoc, Nat.mul_assoc]
  have h21 : un21.toNat = r * 4294967296 + l.toNat % 16777216 * 256 := by
    simp only [un21]
    rw [UInt64.toNat_sub, UInt64.toNat_add, UInt64.toNat_mul, UInt64.toNat_mul, hun1, hy, hprod, show (4294967296 : UInt64).toNat = 4294967296 from rfl]
    generalize q1.toNat * (m * 256) = A at *
    omega
  have hq0 : q0.toNat = un21.toNat / (m * 256) := by simp only [q0]; rw [UInt64.toNat_div, hy1]
  have h21l : un21.toNat < m * 256 * 4294967296 := by rw [h21]; omega
  have hq0l : q0.toNat < 4294967296 := by rw [hq0]; exact Nat.div_lt_of_lt_mul h21l
  have hqr0 : un21.toNat = q0.toNat * (m * 256) + un21.toNat % (m * 256) := by
    rw [hq0, Nat.mul_comm]
    exact (Nat.div_add_mod _ _).symm
  have hr0 : un21.toNat % (m * 256) < m * 256 := Nat.mod_lt _ (by omega)
  obtain ⟨d1, d2⟩ := HK (K := 16777216) (L := 256) hm0 (by omega) hN hqr
  have e21 : (r * 16777216 + l.toNat % 16777216) * 256 = un21.toNat := by rw [h21]; omega
  rw [e21] at d1 d2
  refine ⟨by rw [UInt64.lt_iff_toNat_lt]; exact hq1l, by rw [UInt64.lt_iff_toNat_lt]; exact hq0l, ?_, ?_⟩
  · rw [← UInt64.toNat_inj, UInt64.toNat_add, UInt64.toNat_mul, show (4294967296 : UInt64).toNat = 4294967296 from rfl, hq0]
    unfold akb
    rw [hm, UInt64.toNat_ofNat', d1, ← hq0]
    exact WT hq1l hq0l
  · have hprod0 : q0.toNat * (m * 1099511627776) = q0.toNat * (m * 256) * 4294967296 := by
      rw [Nat.mul_assoc, Nat.mul_assoc]
    have e3 : (un21 * 4294967296 + (cu l 40 &&& 4294967295) - q0 * cu y 40).toNat = (un21.toNat % (m * 256)) * 4294967296 := by
      rw [hun0, UInt64.toNat_sub, UInt64.toNat_add, UInt64.toNat_mul, UInt64.toNat_mul, hy, hprod0, show (4294967296 : UInt64).toNat = 4294967296 from rfl, show (0 : UInt64).toNat = 0 from rfl]
      generalize un21.toNat % (m * 256) = s at *
      generalize q0.toNat * (m * 256) = A at *
      omega
    rw [← UInt64.toNat_inj, show ((40 : Int)) = ((40 : Nat) : Int) from rfl, fI _ _ (by omega), show ((40 : Nat) : Int) = 40 from rfl, e3]
    unfold Ll
    rw [hm, UInt64.toNat_ofNat', d2]
    exact acT (by omega)
theorem MW {y : UInt64} (h : eH y = true) : ∃ m, y.toNat = m ∧ (cu y 40).toNat = m * 1099511627776 ∧ (bq (cu y 40) 32).toNat = m * 256 ∧ cu y 40 &&& 4294967295 = 0 ∧ 0 < m ∧ m < 16777216 := by
  rcases df h with rfl | rfl
  · exact ⟨16513537, rfl, by decide +kernel, by decide +kernel, by decide +kernel, by omega, by omega⟩
  · exact ⟨16521217, rfl, by decide +kernel, by decide +kernel, by decide +kernel, by omega, by omega⟩
theorem acq : ab Try.prog 113 (fk.aK qc Ic) := PM FD L5 FC L4 acs acr _ _ fun x oy hp ho => by
  rw [← ho]
  clear ho
  obtain ⟨⟨h, l, y, ⟨⟩⟩, ⟨⟩⟩ := x
  have hp' : (eH y && decide (h < y)) = true := hp
  rw [Bool.and_eq_true] at hp'
  obtain ⟨hs, hlt⟩ := hp'
  have hlt := of_decide_eq_true hlt
  obtain ⟨m, f1, f2, f3, f4, f5, f6⟩ := MW hs
  have hh : h.toNat < m := by rw [← f1]; exact UInt64.lt_iff_toNat_lt.1 hlt
  have hy0 : ¬ y = 0 := fun e => by rw [e] at f1; simp at f1; omega
  have hyb : (y == 0) = false := by simpa using hy0
  have hle : decide (y ≤ h) = false := Az hlt
  unfold zt
  refine (OT.ax hyb).trans ((OT.ax hle).trans ?_)
  by_cases h0 : h = 0
  · subst h0
    refine (OT.ao rfl).trans ((ai ?_).trans ?_)
    · simp only [hyb, List.all_cons, List.all_nil, Bool.and_true, Bool.not_false]
    · have e1 : akb 0 l y = l / y := by
        rw [← UInt64.toNat_inj]
        unfold akb
        rw [UInt64.toNat_ofNat', UInt64.toNat_div, show (0 : UInt64).toNat = 0 from rfl, Nat.zero_mul, Nat.zero_add]
        exact Nat.mod_eq_of_lt (Nat.lt_of_le_of_lt (Nat.div_le_self _ _) l.toNat_lt)
      have e2 : Ll 0 l y = l % y := by
        rw [← UInt64.toNat_inj]
        unfold Ll
        rw [UInt64.toNat_ofNat', UInt64.toNat_mod, show (0 : UInt64).toNat = 0 from rfl, Nat.zero_mul, Nat.zero_add]
        exact Nat.mod_eq_of_lt (Nat.lt_of_le_of_lt (Nat.mod_le _ _) l.toNat_lt)
      simp only [Ic, e1, e2]
  · have hb : (h == 0) = false := by simpa using h0
    obtain ⟨w1, w2, w3, w4⟩ := LZ (l := l) f1 f2 f3 f4 f5 f6 hh
    have hz : (!(bq (cu y 40) 32 == 0)) = true := by
      have : ¬ bq (cu y 40) 32 = 0 := fun e => by rw [e] at f3; simp at f3; omega
      simpa using this
    refine (OT.ax hb).trans ((ai ?_).trans ?_)
    · simp only [List.all_cons, List.all_nil, Bool.and_true, Bool.and_eq_true]
      exact ⟨hs, hz, decide_eq_true ⟨f4, w1⟩, hz, decide_eq_true ⟨f4, w2⟩⟩
    · show some (⟨lK, ((_, bq _ ((40 : UInt64).toNat : Int), ()), ())⟩ : fk.Y) = some ⟨lK, ((akb h l y, Ll h l y, ()), ())⟩
      rw [← w3, ← w4]
      rfl
def rV : cK := (fk.aK qc Ic)
theorem L3 : ab Try.prog 113 rV := acq
theorem L0 : aL rV := aD
def qs : Env := aA 113 rV sA
theorem mU : aW Try.prog qs := ag L3 lU
theorem u4 : av qs := ac L0 yH
theorem yI : bm Try.prog te qs := aP follows au mU u4
def np : ap := ⟨[.val true .elem, .val true .elem], [], true, 0, false⟩
abbrev TP : Type := ((aa) × (aa) × Unit) × (Unit)
def zG : Shape := ⟨29, [(2, .ptr 0 0 0), (3, .ptr 1 0 0), (4, .ptr 2 0 0), (6, .ptr 3 0 0), (7, .val false .u64), (9, .val false .int)], [(0, .row .u64), (1, .row .u64), (2, .row .u64), (3, .row .u64)], 0, true⟩
abbrev cO : Type := ((Unit) × (Unit) × (Unit) × (Unit) × (UInt64) × (Int) × Unit) × ((List (UInt64)) × (List (UInt64)) × (List (UInt64)) × (List (UInt64)) × Unit)
def sI : Shape := ⟨29, [(4, .ptr 0 0 0), (6, .ptr 1 0 0), (7, .val false .u64)], [(0, .row .u64), (1, .row .u64)], 0, true⟩
abbrev kI : Type := ((Unit) × (Unit) × (UInt64) × Unit) × ((List (UInt64)) × (List (UInt64)) × Unit)
def WZ : SE → Option Shape := ku [(0, sI)] none
def agA (a7 : UInt64) (a9 : Int) (c0 : List (UInt64)) (c1 : List (UInt64)) (c2 : List (UInt64)) (c3 : List (UInt64)) : OT (Sum cO aQ) :=
  let z0 : Bool := inB a9 4
  let z1 : UInt64 := List.getD c0 (Int.toNat a9 + 0) (0 : UInt64)
  let z2 : UInt64 := List.getD c1 (Int.toNat a9 + 0) (0 : UInt64)
  (.br (decide (a9 < (4 : Int)))
  (gd [z0, decide (Int.toNat a9 + 0 < List.length c0), z0, decide (Int.toNat a9 + 0 < List.length c1), wP ((z1, z2, a7, ()), ()), z0, decide (Int.toNat a9 + 0 < List.length c3), inR (a9 + (1 : Int))] (.ok (.inl (((), ((), ((), ((), (sE z1 z2 a7, (a9 + (1 : Int), ())))))), (c0, (c1, (c2, (List.set c3 (Int.toNat a9 + 0) (qw z1 z2 a7), ()))))))))
  (.ok (.inr ⟨(.exit 0, sI), (((), ((), (a7, ()))), (c2, (c3, ())))⟩)))
def zH (s : cO) : OT (Sum cO aQ) := agA (s.1.2.2.2.2.1) (s.1.2.2.2.2.2.1) (s.2.1) (s.2.2.1) (s.2.2.2.1) (s.2.2.2.2.1)
theorem agx (s : cO) (Q : Sum cO aQ → Prop) : wps te qs ay 1000 (bJ (al Try.f101) 0) (zG.inj s) (cW zG WZ (Q : Sum zG.T aQ → Prop)) = (zH s).wpR Q := by kernel_rfl
def F1 (g0_0 : cO → kI) (s : cO) : OT aQ := (.ok ⟨(.exit 0, sI), g0_0 s⟩)
def MO : az := ⟨[.val true .elem, .val false .bool], [], false⟩
def Qv : SV → Option az := fun _ => some MO
def W2 (ok0 : cO → Bool) (g0_0 : cO → kI) (a0 : aa) (a1 : aa) : OT np.Y :=
  let z0 : (PUnit × PUnit × PUnit × PUnit × UInt64 × Int × PUnit) × List UInt64 × List UInt64 × List UInt64 × List UInt64 × PUnit := (((), (), (), (), (0 : UInt64), (0 : Int), ()), [a0.w0, a0.w1, a0.w2, a0.w3], [a1.w0, a1.w1, a1.w2, a1.w3], [(0 : UInt64), (0 : UInt64), (0 : UInt64), (0 : UInt64)], [(0 : UInt64), (0 : UInt64), (0 : UInt64), (0 : UInt64)], ())
  let z1 : (PUnit × PUnit × UInt64 × PUnit) × List UInt64 × List UInt64 × PUnit := g0_0 z0
  let z2 := z1.snd
  let z3 := z2.snd.fst
  let z4 := z2.fst
  let z5 : List UInt64 := lay z4 z3 4 (0 : UInt64)
  (gd [ok0 z0, decide (4 ≤ List.length z3), decide ((4 / 1 : Nat) + 0 ≤ List.length z4), decide (4 ≤ List.length z5)] (.ok ⟨MO, (({ w0 := List.getD z5 0 0, w1 := List.getD z5 1 0, w2 := List.getD z5 2 0, w3 := List.getD z5 3 0 }, (!z1.fst.snd.snd.fst == (0 : UInt64), ())), ())⟩))
theorem akj (ok0 : cO → Bool) (g0_0 : cO → kI) (x : TP) (Q : np.Y → Prop) : wpf te qs (bx 0 (dw zG 0 ok0 (F1 g0_0)) ay) 1000 Try.f101 (np.inp.inj x).tm (np.inp.inj x).hp (fnK np Qv Q) (fun _ _ => False) = (W2 ok0 g0_0 (x.1.1) (x.1.2.1)).wpR Q := by kernel_rfl
theorem W0 (ok0 : cO → Bool) (g0_0 : cO → kI) (h0 : ∀ s : cO, ok0 s = true → ∃ m e, aq (zH) m s = some e ∧ (F1 g0_0 s).run = some e) (pre : TP → Bool) (F : TP → OT np.Y) (hF : ∀ (x : TP) oy, pre x = true → (F x).run = some oy → (W2 ok0 g0_0 (x.1.1) (x.1.2.1)).run = some oy) : ab Try.prog 101 (np.aK pre F) :=
  aE au mU yI (f := 101) (fn := Try.f101) (c := al Try.f101) (by kernel_rfl) (by kernel_rfl) (by kernel_rfl) (S := np) (k := 0) (by kernel_rfl) (fun R hR => (aI (c := (al Try.f101)) (by kernel_rfl) (id := 0) (by kernel_rfl) (bA au mU yI (sh := zG) hR (xs := WZ) (aH (by kernel_rfl) (by kernel_rfl) hR) aX af (n := 1000) (T := zH) (fun s Q => agx s Q) (ok := ok0) (f := F1 g0_0) h0) af)) (n := 1000) (sel := Qv) (fun v o h => by cases h; rfl) (pre := pre) (F := F) (T := fun x => W2 ok0 g0_0 (x.1.1) (x.1.2.1)) (fun x Q => akj ok0 g0_0 x Q) hF
def DY (a b : List UInt64) (k : Nat) (s : List UInt64 × UInt64) : List UInt64 × UInt64 := (s.1.set k (qw (a.getD k 0) (b.getD k 0) s.2), sE (a.getD k 0) (b.getD k 0) s.2)
def Qx (s : cO) : Bool := decide (s.1.2.2.2.2.1 = 0 ∧ s.1.2.2.2.2.2.1 = 0 ∧ s.2.1.length = 4 ∧ s.2.2.1.length = 4 ∧ s.2.2.2.2.1 = [0, 0, 0, 0])
def W1 (s : cO) : kI := (((), (), (upto (DY s.2.1 s.2.2.1) ([0, 0, 0, 0], 0) 4).2, ()), (s.2.2.2.1, (upto (DY s.2.1 s.2.2.1) ([0, 0, 0, 0], 0) 4).1, ()))
theorem agz : ∀ s : cO, Qx s = true → ∃ m e, aq zH m s = some e ∧ (F1 W1 s).run = some e := by
  rintro ⟨⟨⟨⟩, ⟨⟩, ⟨⟩, ⟨⟩, c, i, ⟨⟩⟩, ⟨c0, c1, c2, c3, ⟨⟩⟩⟩ h
  have h' := of_decide_eq_true h
  dsimp only at h'
  obtain ⟨rfl, rfl, h0, h1, rfl⟩ := h'
  have := (bI (T := zH) (fun k s => ((((), (), (), (), s.2, (k : Int), ()), (c0, c1, c2, s.1, ())) : cO)) (DY c0 c1)
    (fun s => (⟨(.exit 0, sI), (((), (), s.2, ()), (c2, s.1, ()))⟩ : aQ)) 4 ([0, 0, 0, 0], 0) (fun _ s => s.1.length = 4 ∧ s.2.toNat ≤ 1) ⟨rfl, by decide⟩ (fun k s hk hs => ⟨?_, ?_⟩) (fun s hs => ?_)).1
  · obtain ⟨m, hm⟩ := this
    exact ⟨m, _, hm, rfl⟩
  · refine (OT.ao (decide_eq_true (by dsimp only; omega))).trans ((ai ?_).trans ?_)
    · simp only [Int.toNat_natCast, Nat.add_zero, h0, h1, hs.1, List.all_cons, List.all_nil, Bool.and_true, Bool.and_eq_true]
      exact ⟨bU (by omega), decide_eq_true (by omega), bU (by omega), decide_eq_true (by omega), decide_eq_true hs.2, bU (by omega), decide_eq_true (by omega), bC (by omega)⟩
    · simp only [OT.j4, Int.toNat_natCast, Nat.add_zero]
      rfl
  · exact ⟨by simp only [DY, List.length_set]; exact hs.1, wS hs.2⟩
  · exact OT.ax (decide_eq_false (by dsimp only; omega))
theorem aj1 (x y : List UInt64) (hx : x.length = 4) (hy : y.length = 4) : lay x y 4 0 = y := aaA hx hy
def Qw (_ : TP) : Bool := true
def W3 (x : TP) : OT np.Y := .ok ⟨MO, (((sF x.1.1 x.1.2.1).1, ((sF x.1.1 x.1.2.1).2, ())), ())⟩
theorem agy : ab Try.prog 101 (np.aK Qw W3) := W0 Qx W1 agz _ _ fun x oy hp ho => by
  rw [← ho]
  clear ho
  obtain ⟨⟨a, b, ⟨⟩⟩, ⟨⟩⟩ := x
  obtain ⟨_, hw⟩ := DZ a b
  refine (ai ?_).trans ?_
  · simp only [List.all_cons, List.all_nil, Bool.and_true, Bool.and_eq_true]
    exact ⟨rfl, rfl, rfl, rfl⟩
  · simp only [W3, hw]
    rfl
def zF : cK := (np.aK Qw W3)
theorem TO : ab Try.prog 101 zF := agy
theorem TN : aL zF := aD
def FI : Env := aA 101 zF qs
theorem uo : aW Try.prog FI := ag TO mU
theorem CC : av FI := ac TN u4
theorem FH : bm Try.prog te FI := aP follows au uo CC
def nl : ap := ⟨[.val true .elem, .val true .elem], [], true, 0, false⟩
abbrev TG : Type := ((aa) × (aa) × Unit) × (Unit)
def zA : Shape := ⟨29, [(2, .ptr 0 0 0), (3, .ptr 1 0 0), (4, .ptr 2 0 0), (6, .ptr 3 0 0), (7, .val false .u64), (9, .val false .int)], [(0, .row .u64), (1, .row .u64), (2, .row .u64), (3, .row .u64)], 0, true⟩
abbrev cN : Type := ((Unit) × (Unit) × (Unit) × (Unit) × (UInt64) × (Int) × Unit) × ((List (UInt64)) × (List (UInt64)) × (List (UInt64)) × (List (UInt64)) × Unit)
def sG : Shape := ⟨29, [(4, .ptr 0 0 0), (6, .ptr 1 0 0), (7, .val false .u64)], [(0, .row .u64), (1, .row .u64)], 0, true⟩
abbrev kH : Type := ((Unit) × (Unit) × (UInt64) × Unit) × ((List (UInt64)) × (List (UInt64)) × Unit)
def WM : SE → Option Shape := ku [(0, sG)] none
def agu (a7 : UInt64) (a9 : Int) (c0 : List (UInt64)) (c1 : List (UInt64)) (c2 : List (UInt64)) (c3 : List (UInt64)) : OT (Sum cN aQ) :=
  let z0 : Bool := inB a9 4
  let z1 : UInt64 := List.getD c0 (Int.toNat a9 + 0) (0 : UInt64)
  let z2 : UInt64 := List.getD c1 (Int.toNat a9 + 0) (0 : UInt64)
  (.br (decide (a9 < (4 : Int)))
  (gd [z0, decide (Int.toNat a9 + 0 < List.length c0), z0, decide (Int.toNat a9 + 0 < List.length c1), wI ((z1, z2, a7, ()), ()), z0, decide (Int.toNat a9 + 0 < List.length c3), inR (a9 + (1 : Int))] (.ok (.inl (((), ((), ((), ((), (IG z1 z2 a7, (a9 + (1 : Int), ())))))), (c0, (c1, (c2, (List.set c3 (Int.toNat a9 + 0) (lY z1 z2 a7), ()))))))))
  (.ok (.inr ⟨(.exit 0, sG), (((), ((), (a7, ()))), (c2, (c3, ())))⟩)))
def zB (s : cN) : OT (Sum cN aQ) := agu (s.1.2.2.2.2.1) (s.1.2.2.2.2.2.1) (s.2.1) (s.2.2.1) (s.2.2.2.1) (s.2.2.2.2.1)
theorem agr (s : cN) (Q : Sum cN aQ → Prop) : wps te FI ay 1000 (bJ (al Try.f91) 0) (zA.inj s) (cW zA WM (Q : Sum zA.T aQ → Prop)) = (zB s).wpR Q := by kernel_rfl
def FZ (g0_0 : cN → kH) (s : cN) : OT aQ := (.ok ⟨(.exit 0, sG), g0_0 s⟩)
def MK : az := ⟨[.val true .elem, .val false .bool], [], false⟩
def Ql : SV → Option az := fun _ => some MK
def WQ (ok0 : cN → Bool) (g0_0 : cN → kH) (a0 : aa) (a1 : aa) : OT nl.Y :=
  let z0 : (PUnit × PUnit × PUnit × PUnit × UInt64 × Int × PUnit) × List UInt64 × List UInt64 × List UInt64 × List UInt64 × PUnit := (((), (), (), (), (0 : UInt64), (0 : Int), ()), [a0.w0, a0.w1, a0.w2, a0.w3], [a1.w0, a1.w1, a1.w2, a1.w3], [(0 : UInt64), (0 : UInt64), (0 : UInt64), (0 : UInt64)], [(0 : UInt64), (0 : UInt64), (0 : UInt64), (0 : UInt64)], ())
  let z1 : (PUnit × PUnit × UInt64 × PUnit) × List UInt64 × List UInt64 × PUnit := g0_0 z0
  let z2 := z1.snd
  let z3 := z2.snd.fst
  let z4 := z2.fst
  let z5 : List UInt64 := lay z4 z3 4 (0 : UInt64)
  (gd [ok0 z0, decide (4 ≤ List.length z3), decide ((4 / 1 : Nat) + 0 ≤ List.length z4), decide (4 ≤ List.length z5)] (.ok ⟨MK, (({ w0 := List.getD z5 0 0, w1 := List.getD z5 1 0, w2 := List.getD z5 2 0, w3 := List.getD z5 3 0 }, (!z1.fst.snd.snd.fst == (0 : UInt64), ())), ())⟩))
theorem akg (ok0 : cN → Bool) (g0_0 : cN → kH) (x : TG) (Q : nl.Y → Prop) : wpf te FI (bx 0 (dw zA 0 ok0 (FZ g0_0)) ay) 1000 Try.f91 (nl.inp.inj x).tm (nl.inp.inj x).hp (fnK nl Ql Q) (fun _ _ => False) = (WQ ok0 g0_0 (x.1.1) (x.1.2.1)).wpR Q := by kernel_rfl
theorem WN (ok0 : cN → Bool) (g0_0 : cN → kH) (h0 : ∀ s : cN, ok0 s = true → ∃ m e, aq (zB) m s = some e ∧ (FZ g0_0 s).run = some e) (pre : TG → Bool) (F : TG → OT nl.Y) (hF : ∀ (x : TG) oy, pre x = true → (F x).run = some oy → (WQ ok0 g0_0 (x.1.1) (x.1.2.1)).run = some oy) : ab Try.prog 91 (nl.aK pre F) :=
  aE au uo FH (f := 91) (fn := Try.f91) (c := al Try.f91) (by kernel_rfl) (by kernel_rfl) (by kernel_rfl) (S := nl) (k := 0) (by kernel_rfl) (fun R hR => (aI (c := (al Try.f91)) (by kernel_rfl) (id := 0) (by kernel_rfl) (bA au uo FH (sh := zA) hR (xs := WM) (aH (by kernel_rfl) (by kernel_rfl) hR) aX af (n := 1000) (T := zB) (fun s Q => agr s Q) (ok := ok0) (f := FZ g0_0) h0) af)) (n := 1000) (sel := Ql) (fun v o h => by cases h; rfl) (pre := pre) (F := F) (T := fun x => WQ ok0 g0_0 (x.1.1) (x.1.2.1)) (fun x Q => akg ok0 g0_0 x Q) hF
def DG (a b : List UInt64) (k : Nat) (s : List UInt64 × UInt64) : List UInt64 × UInt64 := (s.1.set k (lY (a.getD k 0) (b.getD k 0) s.2), IG (a.getD k 0) (b.getD k 0) s.2)
def Qn (s : cN) : Bool := decide (s.1.2.2.2.2.1 = 0 ∧ s.1.2.2.2.2.2.1 = 0 ∧ s.2.1.length = 4 ∧ s.2.2.1.length = 4 ∧ s.2.2.2.2.1 = [0, 0, 0, 0])
def WO (s : cN) : kH := (((), (), (upto (DG s.2.1 s.2.2.1) ([0, 0, 0, 0], 0) 4).2, ()), (s.2.2.2.1, (upto (DG s.2.1 s.2.2.1) ([0, 0, 0, 0], 0) 4).1, ()))
theorem agt : ∀ s : cN, Qn s = true → ∃ m e, aq zB m s = some e ∧ (FZ WO s).run = some e := by
  rintro ⟨⟨⟨⟩, ⟨⟩, ⟨⟩, ⟨⟩, c, i, ⟨⟩⟩, ⟨c0, c1, c2, c3, ⟨⟩⟩⟩ h
  have h' := of_decide_eq_true h
  dsimp only at h'
  obtain ⟨rfl, rfl, h0, h1, rfl⟩ := h'
  have := (bI (T := zB) (fun k s => ((((), (), (), (), s.2, (k : Int), ()), (c0, c1, c2, s.1, ())) : cN)) (DG c0 c1)
    (fun s => (⟨(.exit 0, sG), (((), (), s.2, ()), (c2, s.1, ()))⟩ : aQ)) 4 ([0, 0, 0, 0], 0) (fun _ s => s.1.length = 4 ∧ s.2.toNat ≤ 1) ⟨rfl, by decide⟩ (fun k s hk hs => ⟨?_, ?_⟩) (fun s hs => ?_)).1
  · obtain ⟨m, hm⟩ := this
    exact ⟨m, _, hm, rfl⟩
  · refine (OT.ao (decide_eq_true (by dsimp only; omega))).trans ((ai ?_).trans ?_)
    · simp only [Int.toNat_natCast, Nat.add_zero, h0, h1, hs.1, List.all_cons, List.all_nil, Bool.and_true, Bool.and_eq_true]
      exact ⟨bU (by omega), decide_eq_true (by omega), bU (by omega), decide_eq_true (by omega), decide_eq_true hs.2, bU (by omega), decide_eq_true (by omega), bC (by omega)⟩
    · simp only [OT.j4, Int.toNat_natCast, Nat.add_zero]
      rfl
  · exact ⟨by simp only [DG, List.length_set]; exact hs.1, ve⟩
  · exact OT.ax (decide_eq_false (by dsimp only; omega))
def Qm (_ : TG) : Bool := true
def WR (x : TG) : OT nl.Y := .ok ⟨MK, (((kx x.1.1 x.1.2.1).1, ((kx x.1.1 x.1.2.1).2, ())), ())⟩
theorem ags : ab Try.prog 91 (nl.aK Qm WR) := WN Qn WO agt _ _ fun x oy hp ho => by
  rw [← ho]
  clear ho
  obtain ⟨⟨a, b, ⟨⟩⟩, ⟨⟩⟩ := x
  obtain ⟨_, hw⟩ := D1 a b
  refine (ai ?_).trans ?_
  · simp only [List.all_cons, List.all_nil, Bool.and_true, Bool.and_eq_true]
    exact ⟨rfl, rfl, rfl, rfl⟩
  · simp only [WR, hw]
    rfl
def zy : cK := (nl.aK Qm WR)
theorem TF : ab Try.prog 91 zy := ags
theorem TC : aL zy := aD
def Mf : Env := aA 91 zy FI
theorem Cx : aW Try.prog Mf := ag TF uo
theorem Cy : av Mf := ac TC CC
theorem Wt : bm Try.prog te Mf := aP follows au Cx Cy
def iR : ap := ⟨[.val true .elem, .val true .elem], [], true, 0, false⟩
abbrev D0 : Type := ((aa) × (aa) × Unit) × (Unit)
def F0 : az := ⟨[.val false .bool], [], false⟩
def IL : SV → Option az := fun _ => some F0
def MN (a0 : aa) (a1 : aa) : OT iR.Y :=
  (.ok ⟨F0, (((kx a0 a1).snd, ()), ())⟩)
theorem agv (x : D0) (Q : iR.Y → Prop) : wpf te Mf ay 1000 Try.f59 (iR.inp.inj x).tm (iR.inp.inj x).hp (fnK iR IL Q) (fun _ _ => False) = (MN (x.1.1) (x.1.2.1)).wpR Q := by kernel_rfl
theorem TH (pre : D0 → Bool) (F : D0 → OT iR.Y) (hF : ∀ (x : D0) oy, pre x = true → (F x).run = some oy → (MN (x.1.1) (x.1.2.1)).run = some oy) : ab Try.prog 59 (iR.aK pre F) :=
  aE au Cx Wt (f := 59) (fn := Try.f59) (c := al Try.f59) (by kernel_rfl) (by kernel_rfl) (by kernel_rfl) (S := iR) (k := 0) (by kernel_rfl) (fun R hR => af) (n := 1000) (sel := IL) (fun v o h => by cases h; rfl) (pre := pre) (F := F) (T := fun x => MN (x.1.1) (x.1.2.1)) (fun x Q => agv x Q) hF
def IM (_ : D0) : Bool := true
def WU (x : D0) : OT iR.Y := .ok ⟨F0, ((Nat.blt x.1.1.nat x.1.2.1.nat, ()), ())⟩
theorem acV : ab Try.prog 59 (iR.aK IM WU) := TH _ _ fun x oy _ ho => ho
def vc : cK := (iR.aK IM WU)
theorem MM : ab Try.prog 59 vc := acV
theorem ML : aL vc := aD
def Cz : Env := aA 59 vc Mf
theorem wT : aW Try.prog Cz := ag MM Cx
theorem xX : av Cz := ac ML Cy
theorem PW : bm Try.prog te Cz := aP follows au wT xX
def mV : ap := ⟨[.val true .elem, .val false .int], [], true, 0, false⟩
abbrev TL : Type := ((aa) × (Int) × Unit) × (Unit)
def vd : az := ⟨[.val false .bool], [], false⟩
def Qs : SV → Option az := fun _ => some vd
def WY (a0 : aa) (a1 : Int) : OT mV.Y :=
  let z0 : Int := Int.tdiv a1 (64 : Int)
  let z1 : Int := Int.tmod a1 (64 : Int)
  (.br (decide ((0 : Int) ≤ a1))
  (.br (decide (a1 < (256 : Int)))
    (gd [true && inR z0, inB z0 4, decide (Int.toNat z0 + 0 < 4), decide ((0 : Int) ≤ z1)] (.ok ⟨vd, ((bq (List.getD [a0.w0, a0.w1, a0.w2, a0.w3] (Int.toNat z0 + 0) (0 : UInt64)) z1 &&& (1 : UInt64) == (1 : UInt64), ()), ())⟩))
    (.ok ⟨vd, ((false, ()), ())⟩))
  (.ok ⟨vd, ((false, ()), ())⟩))
theorem aki (x : TL) (Q : mV.Y → Prop) : wpf te Cz ay 1000 Try.f49 (mV.inp.inj x).tm (mV.inp.inj x).hp (fnK mV Qs Q) (fun _ _ => False) = (WY (x.1.1) (x.1.2.1)).wpR Q := by kernel_rfl
theorem WX (pre : TL → Bool) (F : TL → OT mV.Y) (hF : ∀ (x : TL) oy, pre x = true → (F x).run = some oy → (WY (x.1.1) (x.1.2.1)).run = some oy) : ab Try.prog 49 (mV.aK pre F) :=
  aE au wT PW (f := 49) (fn := Try.f49) (c := al Try.f49) (by kernel_rfl) (by kernel_rfl) (by kernel_rfl) (S := mV) (k := 0) (by kernel_rfl) (fun R hR => af) (n := 1000) (sel := Qs) (fun v o h => by cases h; rfl) (pre := pre) (F := F) (T := fun x => WY (x.1.1) (x.1.2.1)) (fun x Q => aki x Q) hF
def yX (n i : Nat) : Bool := Nat.beq (n / 2 ^ i % 2) 1
theorem PI (x : UInt64) : (x &&& 1 == 1) = Nat.beq (x.toNat % 2) 1 := by
  have e : (x &&& 1).toNat = x.toNat % 2 := by
    rw [UInt64.toNat_and]
    exact Nat.and_two_pow_sub_one_eq_mod x.toNat 1
  rw [← e]
  by_cases h : x &&& 1 = 1
  · rw [h]; rfl
  · have h' : ¬ (x &&& 1).toNat = 1 := fun h' => h (UInt64.toNat_inj.1 h')
    have h2 : Nat.beq (x &&& 1).toNat 1 = false := by
      cases hb : Nat.beq (x &&& 1).toNat 1
      · rfl
      · exact absurd (Nat.eq_of_beq_eq_true hb) h'
    rw [h2]
    simpa using h
def nd (a : aa) (i : Int) : Bool := cond (decide (0 ≤ i)) (cond (decide (i < 256)) (yX a.nat i.toNat) false) false
def Qt (_ : TL) : Bool := true
def afx (x : TL) : OT mV.Y := .ok ⟨vd, ((nd x.1.1 x.1.2.1, ()), ())⟩
theorem acn {a : aa} {i : Int} (h1 : 0 ≤ i) (h2 : i < 256) : (bq (List.getD [a.w0, a.w1, a.w2, a.w3] (Int.toNat (Int.tdiv i 64) + 0) 0) (Int.tmod i 64) &&& 1 == 1) = nd a i := by
  obtain ⟨n, rfl⟩ : ∃ n : Nat, i = (n : Int) := ⟨i.toNat, by omega⟩
  have hn : n < 256 := by omega
  have t1 : Int.tdiv (n : Int) 64 = ((n / 64 : Nat) : Int) := by rw [Int.tdiv_eq_ediv_of_nonneg (by omega)]; omega
  have t2 : Int.tmod (n : Int) 64 = ((n % 64 : Nat) : Int) := by rw [Int.tmod_eq_emod_of_nonneg (by omega)]; omega
  rw [t1, t2, PI, fI _ _ (by omega), Int.toNat_natCast, Nat.add_zero]
  have := Tt (a := a) (q := n / 64) (r := n % 64) (by omega) (by omega)
  rw [show 64 * (n / 64) + n % 64 = n by omega] at this
  unfold nd yX
  rw [decide_eq_true h1, decide_eq_true h2, Int.toNat_natCast]
  simp only [cond_true]
  rw [← this]
  rfl
theorem agw : ab Try.prog 49 (mV.aK Qt afx) := WX _ _ fun x oy _ ho => by
  rw [← ho]
  clear ho
  obtain ⟨⟨a, i, ⟨⟩⟩, ⟨⟩⟩ := x
  show _ = (OT.ok ⟨vd, ((nd a i, ()), ())⟩ : OT mV.Y).run
  by_cases h1 : 0 ≤ i
  · refine (OT.ao (decide_eq_true h1)).trans ?_
    by_cases h2 : i < 256
    · refine (OT.ao (decide_eq_true h2)).trans ((ai ?_).trans ?_)
      · obtain ⟨n, rfl⟩ : ∃ n : Nat, i = (n : Int) := ⟨i.toNat, by omega⟩
        have t1 : Int.tdiv (n : Int) 64 = ((n / 64 : Nat) : Int) := by rw [Int.tdiv_eq_ediv_of_nonneg (by omega)]; omega
        have t2 : Int.tmod (n : Int) 64 = ((n % 64 : Nat) : Int) := by rw [Int.tmod_eq_emod_of_nonneg (by omega)]; omega
        simp only [t1, t2, Int.toNat_natCast, Nat.add_zero, List.all_cons, List.all_nil, Bool.and_true, Bool.and_eq_true, Bool.true_and]
        exact ⟨bC (by omega), bU (by omega), decide_eq_true (by omega), decide_eq_true (by omega)⟩
      · simp only [acn h1 h2]
    · have e : nd a i = false := by unfold nd; rw [decide_eq_true h1, decide_eq_false h2]; rfl
      rw [e]
      exact OT.ax (decide_eq_false h2)
  · have e : nd a i = false := by unfold nd; rw [decide_eq_false h1]; rfl
    rw [e]
    exact OT.ax (decide_eq_false h1)
def zD : cK := (mV.aK Qt afx)
theorem TK : ab Try.prog 49 zD := agw
theorem TJ : aL zD := aD
def Mg : Env := aA 49 zD Cz
theorem CA : aW Try.prog Mg := ag TK wT
theorem CB : av Mg := ac TJ xX
theorem Wu : bm Try.prog te Mg := aP follows au CA CB
def BE : ap := ⟨[.val false .int], [], true, 0, false⟩
abbrev aj7 : Type := ((Int) × Unit) × (Unit)
def xS : az := ⟨[.val true (.prod .elem (.prod .int (.prod .u64 (.prod .u64 .elem)))), .val false .int], [], false⟩
def aa5 : SV → Option az := fun _ => some xS
def ajc (a0 : Int) : OT BE.Y :=
  let z0 : aa := { w0 := 0, w1 := 0, w2 := 0, w3 := 0 }
  let z1 : UInt64 × aa := ((0 : UInt64), z0)
  (.br (a0 == (0 : Int))
  (.ok ⟨xS, ((({ w0 := 16513537, w1 := 0, w2 := 0, w3 := 0 }, (9 : Int), (16513537 : UInt64), z1), ((0 : Int), ())), ())⟩)
  (.br (a0 == (1 : Int))
    (.ok ⟨xS, ((({ w0 := 16521217, w1 := 0, w2 := 0, w3 := 0 }, (11 : Int), (16521217 : UInt64), z1), ((0 : Int), ())), ())⟩)
    (.br (a0 == (2 : Int))
      (.ok ⟨xS, ((({ w0 := 11037532056220336129, w1 := 2469829653914515739, w2 := 0, w3 := 4611686018427387904 }, (32 : Int), (0 : UInt64), (11037532056220336127 : UInt64), { w0 := 10122100416058490895, w1 := 15551789045973377255, w2 := 8617542898466512152, w3 := 679271340751763220 }), ((0 : Int), ())), ())⟩)
      (.br (a0 == (3 : Int))
        (.ok ⟨xS, ((({ w0 := 10108024940646105089, w1 := 2469829653919213789, w2 := 0, w3 := 4611686018427387904 }, (32 : Int), (0 : UInt64), (10108024940646105087 : UInt64), { w0 := 18200867980676431887, w1 := 7474641938123724515, w2 := 9200329640471491984, w3 := 679271340771891881 }), ((0 : Int), ())), ())⟩)
        (.ok ⟨xS, (((z0, (0 : Int), (0 : UInt64), z1), ((20 : Int), ())), ())⟩)))))
theorem amm (x : aj7) (Q : BE.Y → Prop) : wpf te Mg ay 1000 Try.f78 (BE.inp.inj x).tm (BE.inp.inj x).hp (fnK BE aa5 Q) (fun _ _ => False) = (ajc (x.1.1)).wpR Q := by kernel_rfl
theorem aeU (pre : aj7 → Bool) (F : aj7 → OT BE.Y) (hF : ∀ (x : aj7) oy, pre x = true → (F x).run = some oy → (ajc (x.1.1)).run = some oy) : ab Try.prog 78 (BE.aK pre F) :=
  aE au CA Wu (f := 78) (fn := Try.f78) (c := al Try.f78) (by kernel_rfl) (by kernel_rfl) (by kernel_rfl) (S := BE) (k := 0) (by kernel_rfl) (fun R hR => af) (n := 1000) (sel := aa5) (fun v o h => by cases h; rfl) (pre := pre) (F := F) (T := fun x => ajc (x.1.1)) (fun x Q => amm x Q) hF
abbrev IJ : Type := aa × Int × UInt64 × UInt64 × aa
def akR : IJ := (⟨0, 0, 0, 0⟩, 0, 0, 0, ⟨0, 0, 0, 0⟩)
def bM : Nat → IJ
  | 0 => (⟨16513537, 0, 0, 0⟩, 9, 16513537, 0, ⟨0, 0, 0, 0⟩)
  | 1 => (⟨16521217, 0, 0, 0⟩, 11, 16521217, 0, ⟨0, 0, 0, 0⟩)
  | 2 => (⟨11037532056220336129, 2469829653914515739, 0, 4611686018427387904⟩, 32, 0, 11037532056220336127, ⟨10122100416058490895, 15551789045973377255, 8617542898466512152, 679271340751763220⟩)
  | 3 => (⟨10108024940646105089, 2469829653919213789, 0, 4611686018427387904⟩, 32, 0, 10108024940646105087, ⟨18200867980676431887, 7474641938123724515, 9200329640471491984, 679271340771891881⟩)
  | _ => akR
def aj (s : Int) : Bool := decide (0 ≤ s) && decide (s < 4)
theorem cl {s : Int} (h : aj s = true) : s = 0 ∨ s = 1 ∨ s = 2 ∨ s = 3 := by
  simp only [aj, Bool.and_eq_true, decide_eq_true_eq] at h
  omega
theorem o6 {s : Int} (h : aj s = false) : (s == 0) = false ∧ (s == 1) = false ∧ (s == 2) = false ∧ (s == 3) = false := by
  have hn : ∀ k : Int, 0 ≤ k → k < 4 → (s == k) = false := fun k h0 h1 => by
    cases hb : s == k
    · rfl
    · have : s = k := by simpa using hb
      subst this
      simp only [aj, decide_eq_true h0, decide_eq_true h1, Bool.and_self] at h
      cases h
  exact ⟨hn 0 (by decide) (by decide), hn 1 (by decide) (by decide), hn 2 (by decide) (by decide), hn 3 (by decide) (by decide)⟩
def aa6 (_ : aj7) : Bool := true
def alj (x : aj7) : OT BE.Y := .br (aj x.1.1) (.ok ⟨xS, ((bM x.1.1.toNat, ((0 : Int), ())), ())⟩) (.ok ⟨xS, ((akR, ((20 : Int), ())), ())⟩)
theorem ali : ab Try.prog 78 (BE.aK aa6 alj) := aeU _ _ fun x oy _ ho => by
  rw [← ho]
  clear ho
  obtain ⟨⟨s, ⟨⟩⟩, ⟨⟩⟩ := x
  cases hs : aj s
  · obtain ⟨h0, h1, h2, h3⟩ := o6 hs
    exact (OT.ax h0).trans ((OT.ax h1).trans ((OT.ax h2).trans ((OT.ax h3).trans (OT.ax (b := aj s) hs).symm)))
  · rcases cl hs with h | h | h | h
    all_goals
      have h : s = _ := h
      subst h
      rfl
def Hx : cK := (BE.aK aa6 alj)
theorem aa7 : ab Try.prog 78 Hx := ali
theorem aa4 : aL Hx := aD
def acN : Env := aA 78 Hx Mg
theorem Iz : aW Try.prog acN := ag aa7 CA
theorem FO : av acN := ac aa4 CB
theorem acM : bm Try.prog te acN := aP follows au Iz FO
def oq : ap := ⟨[.val false .int], [], true, 0, false⟩
abbrev Vz : Type := ((Int) × Unit) × (Unit)
def BM : az := ⟨[.val true .elem, .val false .int], [], false⟩
def SG : SV → Option az := fun _ => some BM
def abf (a0 : Int) : OT oq.Y :=
  (.br (aj a0)
  (.ok ⟨BM, (((bM (Int.toNat a0)).fst, ((0 : Int), ())), ())⟩)
  (.ok ⟨BM, (({ w0 := 0, w1 := 0, w2 := 0, w3 := 0 }, ((20 : Int), ())), ())⟩))
theorem aln (x : Vz) (Q : oq.Y → Prop) : wpf te acN ay 1000 Try.f58 (oq.inp.inj x).tm (oq.inp.inj x).hp (fnK oq SG Q) (fun _ _ => False) = (abf (x.1.1)).wpR Q := by kernel_rfl
theorem abe (pre : Vz → Bool) (F : Vz → OT oq.Y) (hF : ∀ (x : Vz) oy, pre x = true → (F x).run = some oy → (abf (x.1.1)).run = some oy) : ab Try.prog 58 (oq.aK pre F) :=
  aE au Iz acM (f := 58) (fn := Try.f58) (c := al Try.f58) (by kernel_rfl) (by kernel_rfl) (by kernel_rfl) (S := oq) (k := 0) (by kernel_rfl) (fun R hR => af) (n := 1000) (sel := SG) (fun v o h => by cases h; rfl) (pre := pre) (F := F) (T := fun x => abf (x.1.1)) (fun x Q => aln x Q) hF
def SH (_ : Vz) : Bool := true
def agc (x : Vz) : OT oq.Y := .br (aj x.1.1) (.ok ⟨BM, (((bM x.1.1.toNat).1, ((0 : Int), ())), ())⟩) (.ok ⟨BM, ((⟨0, 0, 0, 0⟩, ((20 : Int), ())), ())⟩)
theorem aji : ab Try.prog 58 (oq.aK SH agc) := abe _ _ fun x oy _ ho => ho
def BL : cK := (oq.aK SH agc)
theorem Vy : ab Try.prog 58 BL := aji
theorem Vx : aL BL := aD
def Dg : Env := aA 58 BL acN
theorem oX : aW Try.prog Dg := ag Vy Iz
theorem Df : av Dg := ac Vx FO
theorem xn : bm Try.prog te Dg := aP follows au oX Df
def lB : ap := ⟨[.val true (.prod .elem (.prod .int (.prod .u64 (.prod .u64 .elem)))), .val true .elem], [], true, 0, false⟩
abbrev Vo : Type := (((aa × (Int × (UInt64 × (UInt64 × aa))))) × (aa) × Unit) × (Unit)
def Bx : Shape := ⟨53, [(2, .ptr 0 0 0), (3, .ptr 1 0 0), (4, .ptr 2 0 0), (5, .val false .u64), (6, .val false .int)], [(0, .cells [.val false .u64, .val false .u64, .val false .u64, .val false .u64, .val false .int, .val false .u64, .val false .u64, .val false .u64, .val false .u64, .val false .u64, .val false .u64]), (1, .row .u64), (2, .row .u64)], 0, true⟩
abbrev cS : Type := ((Unit) × (Unit) × (Unit) × (UInt64) × (Int) × Unit) × (((UInt64) × (UInt64) × (UInt64) × (UInt64) × (Int) × (UInt64) × (UInt64) × (UInt64) × (UInt64) × (UInt64) × (UInt64) × Unit) × (List (UInt64)) × (List (UInt64)) × Unit)
def tQ : Shape := ⟨53, [(4, .ptr 0 0 0), (5, .val false .u64)], [(0, .row .u64)], 0, true⟩
abbrev lA : Type := ((Unit) × (UInt64) × Unit) × ((List (UInt64)) × Unit)
def aa2 : SE → Option Shape := ku [(0, tQ)] none
def aja (a5 : UInt64) (a6 : Int) (c0_0 : UInt64) (c0_1 : UInt64) (c0_2 : UInt64) (c0_3 : UInt64) (c0_4 : Int) (c0_5 : UInt64) (c0_6 : UInt64) (c0_7 : UInt64) (c0_8 : UInt64) (c0_9 : UInt64) (c0_10 : UInt64) (c1 : List (UInt64)) (c2 : List (UInt64)) : OT (Sum cS aQ) :=
  let z0 : UInt64 := List.getD c1 (Int.toNat a6 + 0) (0 : UInt64)
  (.br (decide ((0 : Int) ≤ a6))
  (gd [inB a6 4, decide (Int.toNat a6 + 0 < List.length c1), qc ((a5, z0, c0_5, ()), ()), inR (a6 - (1 : Int))] (.ok (.inl (((), ((), ((), (Ll a5 z0 c0_5, (a6 - (1 : Int), ()))))), ((c0_0, (c0_1, (c0_2, (c0_3, (c0_4, (c0_5, (c0_6, (c0_7, (c0_8, (c0_9, (c0_10, ()))))))))))), (c1, (c2, ())))))))
  (.ok (.inr ⟨(.exit 0, tQ), (((), (a5, ())), (c2, ()))⟩)))
def BB (s : cS) : OT (Sum cS aQ) := aja (s.1.2.2.2.1) (s.1.2.2.2.2.1) (s.2.1.1) (s.2.1.2.1) (s.2.1.2.2.1) (s.2.1.2.2.2.1) (s.2.1.2.2.2.2.1) (s.2.1.2.2.2.2.2.1) (s.2.1.2.2.2.2.2.2.1) (s.2.1.2.2.2.2.2.2.2.1) (s.2.1.2.2.2.2.2.2.2.2.1) (s.2.1.2.2.2.2.2.2.2.2.2.1) (s.2.1.2.2.2.2.2.2.2.2.2.2.1) (s.2.2.1) (s.2.2.2.1)
theorem ai5 (s : cS) (Q : Sum cS aQ → Prop) : wps te Dg ay 1000 (bJ (al Try.f98) 0) (Bx.inj s) (cW Bx aa2 (Q : Sum Bx.T aQ → Prop)) = (BB s).wpR Q := by kernel_rfl
def Hw (g0_0 : cS → lA) (s : cS) : OT aQ := (.ok ⟨(.exit 0, tQ), g0_0 s⟩)
def Bw : Shape := ⟨53, [(2, .ptr 0 0 0), (3, .ptr 1 0 0), (4, .ptr 2 0 0)], [(0, .cells [.val false .u64, .val false .u64, .val false .u64, .val false .u64, .val false .int, .val false .u64, .val false .u64, .val false .u64, .val false .u64, .val false .u64, .val false .u64]), (1, .row .u64), (2, .row .u64)], 0, true⟩
abbrev cR : Type := ((Unit) × (Unit) × (Unit) × Unit) × (((UInt64) × (UInt64) × (UInt64) × (UInt64) × (Int) × (UInt64) × (UInt64) × (UInt64) × (UInt64) × (UInt64) × (UInt64) × Unit) × (List (UInt64)) × (List (UInt64)) × Unit)
def oj : Shape := ⟨53, [(4, .ptr 0 0 0)], [(0, .row .u64)], 0, true⟩
abbrev lz : Type := ((Unit) × Unit) × ((List (UInt64)) × Unit)
def aa1 : SE → Option Shape := ku [] (some oj)
def ai9 (c0_0 : UInt64) (c0_1 : UInt64) (c0_2 : UInt64) (c0_3 : UInt64) (c0_4 : Int) (c0_5 : UInt64) (c0_6 : UInt64) (c0_7 : UInt64) (c0_8 : UInt64) (c0_9 : UInt64) (c0_10 : UInt64) (c1 : List (UInt64)) (c2 : List (UInt64)) : OT (Sum cR aQ) :=
  let z0 : Nat := List.length c1
  let z1 : Bool := decide (4 ≤ z0)
  let z2 : aa × Bool := kx { w0 := List.getD c1 0 0, w1 := List.getD c1 1 0, w2 := List.getD c1 2 0, w3 := List.getD c1 3 0 } { w0 := c0_0, w1 := c0_1, w2 := c0_2, w3 := c0_3 }
  let z3 := z2.fst
  (gd [z1] (.br (z2.snd)
  (gd [z1, decide ((4 / 1 : Nat) + 0 ≤ List.length c2)] (.ok (.inr ⟨(.ret, oj), (((), ()), (lay c2 c1 4 (0 : UInt64), ()))⟩)))
  (gd [decide ((4 / 1 : Nat) + 0 ≤ z0)] (.ok (.inl (((), ((), ((), ()))), ((c0_0, (c0_1, (c0_2, (c0_3, (c0_4, (c0_5, (c0_6, (c0_7, (c0_8, (c0_9, (c0_10, ()))))))))))), (List.set (List.set (List.set (List.set c1 0 z3.w0) 1 z3.w1) 2 z3.w2) 3 z3.w3, (c2, ())))))))))
def BA (s : cR) : OT (Sum cR aQ) := ai9 (s.2.1.1) (s.2.1.2.1) (s.2.1.2.2.1) (s.2.1.2.2.2.1) (s.2.1.2.2.2.2.1) (s.2.1.2.2.2.2.2.1) (s.2.1.2.2.2.2.2.2.1) (s.2.1.2.2.2.2.2.2.2.1) (s.2.1.2.2.2.2.2.2.2.2.1) (s.2.1.2.2.2.2.2.2.2.2.2.1) (s.2.1.2.2.2.2.2.2.2.2.2.2.1) (s.2.2.1) (s.2.2.2.1)
theorem ai4 (s : cR) (Q : Sum cR aQ → Prop) : wps te Dg ay 1000 (bJ (al Try.f98) 2) (Bw.inj s) (cW Bw aa1 (Q : Sum Bw.T aQ → Prop)) = (BA s).wpR Q := by kernel_rfl
def Hv (g2_r : cR → lz) (s : cR) : OT aQ := (.ok ⟨(.ret, oj), g2_r s⟩)
def mF : az := ⟨[.val true .elem], [], false⟩
def Sy : SV → Option az := fun _ => some mF
def BC (ok0 : cS → Bool) (g0_0 : cS → lA) (ok2 : cR → Bool) (g2_r : cR → lz) (a0 : (aa × (Int × (UInt64 × (UInt64 × aa))))) (a1 : aa) : OT lB.Y :=
  let z0 : Bool := !a0.snd.snd.fst == (0 : UInt64)
  let z1 : (UInt64 × UInt64 × UInt64 × UInt64 × Int × UInt64 × UInt64 × UInt64 × UInt64 × UInt64 × UInt64 × PUnit) × List UInt64 × List UInt64 × PUnit := ((a0.fst.w0, a0.fst.w1, a0.fst.w2, a0.fst.w3, a0.snd.fst, a0.snd.snd.fst, a0.snd.snd.snd.fst, a0.snd.snd.snd.snd.w0, a0.snd.snd.snd.snd.w1, a0.snd.snd.snd.snd.w2, a0.snd.snd.snd.snd.w3, ()), [a1.w0, a1.w1, a1.w2, a1.w3], [(0 : UInt64), (0 : UInt64), (0 : UInt64), (0 : UInt64)], ())
  let z2 : (PUnit × PUnit × PUnit × UInt64 × Int × PUnit) × (UInt64 × UInt64 × UInt64 × UInt64 × Int × UInt64 × UInt64 × UInt64 × UInt64 × UInt64 × UInt64 × PUnit) × List UInt64 × List UInt64 × PUnit := (((), (), (), (0 : UInt64), (3 : Int), ()), z1)
  let z3 : (PUnit × UInt64 × PUnit) × List UInt64 × PUnit := g0_0 z2
  let z4 := z3.snd.fst
  let z5 : List UInt64 := List.set (List.set (List.set (List.set z4 0 z3.fst.snd.fst) 1 (0 : UInt64)) 2 (0 : UInt64)) 3 (0 : UInt64)
  let z6 : (PUnit × PUnit × PUnit × PUnit) × (UInt64 × UInt64 × UInt64 × UInt64 × Int × UInt64 × UInt64 × UInt64 × UInt64 × UInt64 × UInt64 × PUnit) × List UInt64 × List UInt64 × PUnit := (((), (), (), ()), z1)
  let z7 := (g2_r z6).snd.fst
  (.br (z0)
  (.br (a1.w1 ||| a1.w2 ||| a1.w3 == (0 : UInt64))
    (gd [z0] (.ok ⟨mF, (({ w0 := a1.w0 % a0.snd.snd.fst, w1 := 0, w2 := 0, w3 := 0 }, ()), ())⟩))
    (gd [ok0 z2, decide ((4 / 1 : Nat) + 0 ≤ List.length z4), decide (4 ≤ List.length z5)] (.ok ⟨mF, (({ w0 := List.getD z5 0 0, w1 := List.getD z5 1 0, w2 := List.getD z5 2 0, w3 := List.getD z5 3 0 }, ()), ())⟩)))
  (gd [ok2 z6, decide (4 ≤ List.length z7)] (.ok ⟨mF, (({ w0 := List.getD z7 0 0, w1 := List.getD z7 1 0, w2 := List.getD z7 2 0, w3 := List.getD z7 3 0 }, ()), ())⟩)))
theorem alh (ok0 : cS → Bool) (g0_0 : cS → lA) (ok2 : cR → Bool) (g2_r : cR → lz) (x : Vo) (Q : lB.Y → Prop) : wpf te Dg (bx 2 (dw Bw 2 ok2 (Hv g2_r)) (bx 0 (dw Bx 0 ok0 (Hw g0_0)) ay)) 1000 Try.f98 (lB.inp.inj x).tm (lB.inp.inj x).hp (fnK lB Sy Q) (fun _ _ => False) = (BC ok0 g0_0 ok2 g2_r (x.1.1) (x.1.2.1)).wpR Q := by kernel_rfl
theorem aa3 (ok0 : cS → Bool) (g0_0 : cS → lA) (ok2 : cR → Bool) (g2_r : cR → lz) (h0 : ∀ s : cS, ok0 s = true → ∃ m e, aq (BB) m s = some e ∧ (Hw g0_0 s).run = some e) (h2 : ∀ s : cR, ok2 s = true → ∃ m e, aq (BA) m s = some e ∧ (Hv g2_r s).run = some e) (pre : Vo → Bool) (F : Vo → OT lB.Y) (hF : ∀ (x : Vo) oy, pre x = true → (F x).run = some oy → (BC ok0 g0_0 ok2 g2_r (x.1.1) (x.1.2.1)).run = some oy) : ab Try.prog 98 (lB.aK pre F) :=
  aE au oX xn (f := 98) (fn := Try.f98) (c := al Try.f98) (by kernel_rfl) (by kernel_rfl) (by kernel_rfl) (S := lB) (k := 0) (by kernel_rfl) (fun R hR => (aI (c := (al Try.f98)) (by kernel_rfl) (id := 2) (by kernel_rfl) (bA au oX xn (sh := Bw) hR (xs := aa1) (aH (by kernel_rfl) (by kernel_rfl) hR) aX af (n := 1000) (T := BA) (fun s Q => ai4 s Q) (ok := ok2) (f := Hv g2_r) h2) (aI (c := (al Try.f98)) (by kernel_rfl) (id := 0) (by kernel_rfl) (bA au oX xn (sh := Bx) hR (xs := aa2) (aH (by kernel_rfl) (by kernel_rfl) hR) aX af (n := 1000) (T := BB) (fun s Q => ai5 s Q) (ok := ok0) (f := Hw g0_0) h0) af))) (n := 1000) (sel := Sy) (fun v o h => by cases h; rfl) (pre := pre) (F := F) (T := fun x => BC ok0 g0_0 ok2 g2_r (x.1.1) (x.1.2.1)) (fun x Q => alh ok0 g0_0 ok2 g2_r x Q) hF
def nh (n : IJ) : Bool := decide (n = bM 0) || (decide (n = bM 1) || (decide (n = bM 2) || decide (n = bM 3)))
theorem rp {n : IJ} (h : nh n = true) : n = bM 0 ∨ n = bM 1 ∨ n = bM 2 ∨ n = bM 3 := by
  simpa [nh] using h
theorem py {s : Int} (h : aj s = true) : nh (bM s.toNat) = true := by
  rcases cl h with rfl | rfl | rfl | rfl <;> decide +kernel
def akC (c : List UInt64) (m : UInt64) : UInt64 := upto (fun k r => Ll r (c.getD (3 - k) 0) m) 0 4
theorem iY {m : UInt64} (h : eH m = true) : 0 < m.toNat := by
  rcases df h with rfl | rfl <;> decide
theorem Re {a : aa} {m : UInt64} (h : eH m = true) : akC (lst a) m = UInt64.ofNat (a.nat % m.toNat) := by
  have hm := iY h
  rw [← UInt64.toNat_inj, UInt64.toNat_ofNat', Nat.mod_eq_of_lt (b := 2 ^ 64) (Nat.lt_trans (Nat.mod_lt _ hm) m.toNat_lt)]
  show (Ll (Ll (Ll (Ll 0 a.w3 m) a.w2 m) a.w1 m) a.w0 m).toNat = _
  rw [mJ hm, mJ hm, mJ hm, mJ hm, G5 _ a.w2.toNat, G5 _ a.w1.toNat, G5 _ a.w0.toNat, show (0 : UInt64).toNat = 0 from rfl]
  congr 1
  unfold Sx.aa.nat
  omega
def tP (s : cS) : Bool := decide (s.1.2.2.2.1 = 0 ∧ s.1.2.2.2.2.1 = 3 ∧ s.2.2.1.length = 4) && eH s.2.1.2.2.2.2.2.1
def Hu (s : cS) : lA := (((), akC s.2.2.1 s.2.1.2.2.2.2.2.1, ()), (s.2.2.2.1, ()))
theorem ai8 : ∀ s : cS, tP s = true → ∃ m e, aq BB m s = some e ∧ (Hw Hu s).run = some e := by
  rintro ⟨⟨⟨⟩, ⟨⟩, ⟨⟩, r, i, ⟨⟩⟩, ⟨⟨x0, x1, x2, x3, x4, sm, x6, x7, x8, x9, x10, ⟨⟩⟩, c1, c2, ⟨⟩⟩⟩ h
  simp only [tP, Bool.and_eq_true, decide_eq_true_eq] at h
  obtain ⟨⟨rfl, rfl, hl⟩, hs⟩ := h
  have hm := iY hs
  have := (bI (T := BB) (fun k r => ((((), (), (), r, 3 - (k : Int), ()), ((x0, x1, x2, x3, x4, sm, x6, x7, x8, x9, x10, ()), c1, c2, ())) : cS)) (fun k r => Ll r (c1.getD (3 - k) 0) sm)
    (fun r => (⟨(.exit 0, tQ), (((), r, ()), (c2, ()))⟩ : aQ)) 4 0 (fun _ r => r.toNat < sm.toNat) hm (fun k r hk hr => ⟨?_, ?_⟩) (fun r hr => ?_)).1
  · obtain ⟨m, hm⟩ := this
    exact ⟨m, _, hm, rfl⟩
  · have e1 : (3 - (k : Int)).toNat = 3 - k := by omega
    have e2 : (3 : Int) - (k : Int) - 1 = 3 - ((k + 1 : Nat) : Int) := by omega
    refine (OT.ao (decide_eq_true (by dsimp only; omega))).trans ((ai ?_).trans ?_)
    · simp only [e1, Nat.add_zero, hl, List.all_cons, List.all_nil, Bool.and_true, Bool.and_eq_true]
      refine ⟨bU (by omega), decide_eq_true (by omega), ?_, bC (by omega)⟩
      simp only [qc, Bool.and_eq_true]
      exact ⟨hs, decide_eq_true (UInt64.lt_iff_toNat_lt.2 hr)⟩
    · simp only [OT.j4, e1, e2, Nat.add_zero]
  · rw [mJ hm]
    exact Nat.mod_lt _ hm
  · exact OT.ax (decide_eq_false (by dsimp only; omega))
def amx (s : cR) : aa := ⟨s.2.1.1, s.2.1.2.1, s.2.1.2.2.1, s.2.1.2.2.2.1⟩
def zn (s : cR) : Bool := decide (s.2.2.1.length = 4 ∧ s.2.2.2.1.length = 4 ∧ 0 < (amx s).nat)
def Ht (s : cR) : lz := (((), ()), (lst (ofN ((elemOf s.2.2.1).nat % (amx s).nat)), ()))
theorem Vm {x0 x1 x2 x3 x5 x6 x7 x8 x9 x10 : UInt64} {x4 : Int} {c2 : List UInt64} (hc : c2.length = 4) (hm : 0 < (aa.mk x0 x1 x2 x3).nat) : ∀ (n : Nat) (a : aa), a.nat = n →
    ∃ m, aq BA m (((), (), (), ()), ((x0, x1, x2, x3, x4, x5, x6, x7, x8, x9, x10, ()), lst a, c2, ())) = some ⟨(.ret, oj), (((), ()), (lst (ofN (a.nat % (aa.mk x0 x1 x2 x3).nat)), ()))⟩ := by
  intro n
  induction n using Nat.strongRecOn with
  | _ n ih =>
    intro a hn
    cases hb : Nat.blt a.nat (aa.mk x0 x1 x2 x3).nat
    · have hle : (aa.mk x0 x1 x2 x3).nat ≤ a.nat := by
        rcases Nat.lt_or_ge a.nat (aa.mk x0 x1 x2 x3).nat with h | h
        · have : Nat.blt a.nat (aa.mk x0 x1 x2 x3).nat = true := Nat.ble_eq_true_of_le h
          rw [this] at hb; cases hb
        · exact h
      have hd := lW hle
      obtain ⟨m, hm2⟩ := ih (a.nat - (aa.mk x0 x1 x2 x3).nat) (by omega) (kx a ⟨x0, x1, x2, x3⟩).1 hd
      rw [hd, ← Nat.mod_eq_sub_mod hle] at hm2
      refine ⟨m + 1, aO ?_ hm2⟩
      refine (ai ?_).trans ((OT.ax hb).trans ((ai ?_).trans rfl))
      · rfl
      · rfl
    · have hlt := cC hb
      rw [Nat.mod_eq_of_lt hlt, px]
      refine ⟨1, aT ?_⟩
      refine (ai ?_).trans ((OT.ao hb).trans ((ai ?_).trans ?_))
      · rfl
      · simp only [hc, List.all_cons, List.all_nil, Bool.and_true, Bool.and_eq_true]
        exact ⟨rfl, rfl⟩
      · show some (Sum.inr (⟨(.ret, oj), (((), ()), (lay c2 (lst a) 4 0, ()))⟩ : aQ)) = _
        rw [aaA hc (cJ a)]
theorem ai7 : ∀ s : cR, zn s = true → ∃ m e, aq BA m s = some e ∧ (Hv Ht s).run = some e := by
  rintro ⟨⟨⟨⟩, ⟨⟩, ⟨⟩, ⟨⟩⟩, ⟨⟨x0, x1, x2, x3, x4, x5, x6, x7, x8, x9, x10, ⟨⟩⟩, c1, c2, ⟨⟩⟩⟩ h
  have h' := of_decide_eq_true h
  dsimp only [amx] at h'
  obtain ⟨h1, h2, h3⟩ := h'
  obtain ⟨m, hm⟩ := Vm (x4 := x4) (x5 := x5) (x6 := x6) (x7 := x7) (x8 := x8) (x9 := x9) (x10 := x10) h2 h3 _ (elemOf c1) rfl
  rw [aZ h1] at hm
  exact ⟨m, _, hm, rfl⟩
def gk (x : Vo) : Bool := nh x.1.1
def af8 (x : Vo) : OT lB.Y := .ok ⟨mF, ((ofN (x.1.2.1.nat % x.1.1.1.nat), ()), ())⟩
theorem nS {n : Nat} (h : n < 18446744073709551616) : ofN n = ⟨UInt64.ofNat n, 0, 0, 0⟩ := by
  refine ZV (k := 0) ?_
  rw [UInt64.toNat_ofNat', Nat.mod_eq_of_lt (by omega)]
  simp
theorem Bz {n : IJ} {a : aa} {m : UInt64} (h1 : n.1 = ⟨m, 0, 0, 0⟩) (h2 : n.2.2.1 = m) (hs : eH m = true) : (BC tP Hu zn Ht n a).run = some ⟨mF, ((ofN (a.nat % n.1.nat), ()), ())⟩ := by
  have hm := iY hs
  have hn : n.1.nat = m.toNat := by rw [h1]; show m.toNat + _ * (0 + _ * (0 + _ * 0)) = _; omega
  have hz : (!(n.2.2.1 == 0)) = true := by
    rw [h2]
    rcases df hs with rfl | rfl <;> rfl
  have hlt : a.nat % m.toNat < 18446744073709551616 := Nat.lt_trans (Nat.mod_lt _ hm) m.toNat_lt
  rw [hn, nS hlt]
  unfold BC
  refine (OT.ao hz).trans ?_
  cases hb : (a.w1 ||| a.w2 ||| a.w3 == 0)
  · refine (OT.ax rfl).trans ((ai ?_).trans ?_)
    · simp only [List.all_cons, List.all_nil, Bool.and_true, Bool.and_eq_true]
      refine ⟨?_, rfl, rfl⟩
      show (decide _ && eH n.2.2.1) = true
      rw [h2, hs, Bool.and_true]
      exact decide_eq_true ⟨rfl, rfl, rfl⟩
    · show some (⟨mF, ((⟨akC (lst a) n.2.2.1, 0, 0, 0⟩, ()), ())⟩ : lB.Y) = _
      rw [h2, Re hs]
  · refine (OT.ao rfl).trans ((ai ?_).trans ?_)
    · simp only [hz, List.all_cons, List.all_nil, Bool.and_true]
    · have hw : a.w1 = 0 ∧ a.w2 = 0 ∧ a.w3 = 0 := by
        have : a.w1 ||| a.w2 ||| a.w3 = 0 := by simpa using hb
        simpa [UInt64.or_eq_zero_iff, and_assoc] using this
      have ha : a.nat = a.w0.toNat := by
        unfold Sx.aa.nat
        rw [hw.1, hw.2.1, hw.2.2]
        show _ + _ * (0 + _ * (0 + _ * 0)) = _
        omega
      show some (⟨mF, ((⟨a.w0 % n.2.2.1, 0, 0, 0⟩, ()), ())⟩ : lB.Y) = _
      have e : a.w0 % n.2.2.1 = UInt64.ofNat (a.nat % m.toNat) := by
        rw [h2, ha, ← UInt64.toNat_inj, UInt64.toNat_mod, UInt64.toNat_ofNat']
        exact (Nat.mod_eq_of_lt (by rw [← ha]; omega)).symm
      rw [e]
theorem E5 {n : IJ} {a : aa} (h2 : n.2.2.1 = 0) (hs : 0 < n.1.nat) : (BC tP Hu zn Ht n a).run = some ⟨mF, ((ofN (a.nat % n.1.nat), ()), ())⟩ := by
  unfold BC
  refine (OT.ax (by rw [h2]; rfl)).trans ((ai ?_).trans ?_)
  · simp only [List.all_cons, List.all_nil, Bool.and_true, Bool.and_eq_true]
    exact ⟨decide_eq_true ⟨rfl, rfl, hs⟩, rfl⟩
  · rfl
theorem amT : 0 < (bM 2).1.nat := by decide +kernel
theorem amS : 0 < (bM 3).1.nat := by decide +kernel
theorem ai6 : ab Try.prog 98 (lB.aK gk af8) := aa3 tP Hu zn Ht ai8 ai7 _ _ fun x oy hp ho => by
  rw [← ho]
  clear ho
  obtain ⟨⟨n, a, ⟨⟩⟩, ⟨⟩⟩ := x
  have hp' : nh n = true := hp
  rcases rp hp' with rfl | rfl | rfl | rfl
  · exact Bz (m := 16513537) rfl rfl rfl
  · exact Bz (m := 16521217) rfl rfl rfl
  · exact E5 rfl amT
  · exact E5 rfl amS
def Bv : cK := (lB.aK gk af8)
theorem Vn : ab Try.prog 98 Bv := ai6
theorem Vl : aL Bv := aD
def Mr : Env := aA 98 Bv Dg
theorem C6 : aW Try.prog Mr := ag Vn oX
theorem C7 : av Mr := ac Vl Df
theorem WA : bm Try.prog te Mr := aP follows au C6 C7
def jL : ap := ⟨[.val true (.prod .elem (.prod .int (.prod .u64 (.prod .u64 .elem)))), .val true .elem, .val true .elem], [], true, 0, false⟩
abbrev Fc : Type := (((aa × (Int × (UInt64 × (UInt64 × aa))))) × (aa) × (aa) × Unit) × (Unit)
def HF : az := ⟨[.val true .elem], [], false⟩
def Ld : SV → Option az := fun _ => some HF
def Pa (a0 : (aa × (Int × (UInt64 × (UInt64 × aa))))) (a1 : aa) (a2 : aa) : OT jL.Y :=
  let z0 : Nat := aa.nat a0.fst
  let z1 : aa := (sF (ofN (aa.nat a1 % z0)) (ofN (aa.nat a2 % z0))).fst
  (gd [gk ((a0, a1, ()), ()), gk ((a0, a2, ()), ()), gk ((a0, z1, ()), ())] (.ok ⟨HF, ((ofN (aa.nat z1 % z0), ()), ())⟩))
theorem ajr (x : Fc) (Q : jL.Y → Prop) : wpf te Mr ay 1000 Try.f79 (jL.inp.inj x).tm (jL.inp.inj x).hp (fnK jL Ld Q) (fun _ _ => False) = (Pa (x.1.1) (x.1.2.1) (x.1.2.2.1)).wpR Q := by kernel_rfl
theorem VO (pre : Fc → Bool) (F : Fc → OT jL.Y) (hF : ∀ (x : Fc) oy, pre x = true → (F x).run = some oy → (Pa (x.1.1) (x.1.2.1) (x.1.2.2.1)).run = some oy) : ab Try.prog 79 (jL.aK pre F) :=
  aE au C6 WA (f := 79) (fn := Try.f79) (c := al Try.f79) (by kernel_rfl) (by kernel_rfl) (by kernel_rfl) (S := jL) (k := 0) (by kernel_rfl) (fun R hR => af) (n := 1000) (sel := Ld) (fun v o h => by cases h; rfl) (pre := pre) (F := F) (T := fun x => Pa (x.1.1) (x.1.2.1) (x.1.2.2.1)) (fun x Q => ajr x Q) hF
theorem tt {n : IJ} (h : nh n = true) : 0 < n.1.nat ∧ n.1.nat < 57896044618658097711785492504343953926634992332820282019728792003956564819968 := by
  rcases rp h with rfl | rfl | rfl | rfl
  · exact ⟨by decide +kernel, by decide +kernel⟩
  · exact ⟨by decide +kernel, by decide +kernel⟩
  · exact ⟨by decide +kernel, by decide +kernel⟩
  · exact ⟨by decide +kernel, by decide +kernel⟩
def pS (s : Int) : Nat := (bM s.toNat).1.nat
theorem fc {s : Int} (h : aj s = true) : 0 < pS s ∧ pS s < 57896044618658097711785492504343953926634992332820282019728792003956564819968 := tt (py h)
def nk (p : Nat) (a b : aa) : aa := ofN ((a.nat + b.nat) % p)
def AC (p : Nat) (a : aa) : aa := ofN ((p - a.nat % p) % p)
def aN (p : Nat) (a b : aa) : aa := ofN (a.nat * b.nat % p)
theorem cv {p n : Nat} (h : 0 < p ∧ p < 57896044618658097711785492504343953926634992332820282019728792003956564819968) : (ofN (n % p)).nat = n % p := by
  have := Nat.mod_lt n h.1
  exact gG (by omega)
theorem acG {p : Nat} (h : 0 < p ∧ p < 57896044618658097711785492504343953926634992332820282019728792003956564819968) (a b : aa) : ofN ((sF (ofN (a.nat % p)) (ofN (b.nat % p))).1.nat % p) = nk p a b := by
  have ha := Nat.mod_lt a.nat h.1
  have hb := Nat.mod_lt b.nat h.1
  have e : (sF (ofN (a.nat % p)) (ofN (b.nat % p))).1.nat = a.nat % p + b.nat % p := by
    show (ofN _).nat = _
    rw [cv h, cv h]
    exact gG (by omega)
  unfold nk
  rw [e, ← Nat.add_mod]
def B1 (x : Fc) : Bool := nh x.1.1
def Pb (x : Fc) : OT jL.Y := .ok ⟨HF, ((nk x.1.1.1.nat x.1.2.1 x.1.2.2.1, ()), ())⟩
theorem ae1 : ab Try.prog 79 (jL.aK B1 Pb) := VO _ _ fun x oy hp ho => by
  rw [← ho]
  clear ho
  obtain ⟨⟨n, a, b, ⟨⟩⟩, ⟨⟩⟩ := x
  have hp' : nh n = true := hp
  refine (ai ?_).trans ?_
  · simp only [List.all_cons, List.all_nil, Bool.and_true, Bool.and_eq_true]
    exact ⟨hp', hp', hp'⟩
  · simp only [Pb, acG (tt hp')]
def wy : cK := (jL.aK B1 Pb)
theorem O9 : ab Try.prog 79 wy := ae1
theorem O8 : aL wy := aD
def Dp : Env := aA 79 wy Mr
theorem xp : aW Try.prog Dp := ag O9 C6
theorem yD : av Dp := ac O8 C7
theorem Qf : bm Try.prog te Dp := aP follows au xp yD
def jI : ap := ⟨[.val true (.prod .elem (.prod .int (.prod .u64 (.prod .u64 .elem)))), .val true .elem], [], true, 0, false⟩
abbrev E6 : Type := (((aa × (Int × (UInt64 × (UInt64 × aa))))) × (aa) × Unit) × (Unit)
def Hy : az := ⟨[.val true .elem], [], false⟩
def K3 : SV → Option az := fun _ => some Hy
def OY (a0 : (aa × (Int × (UInt64 × (UInt64 × aa))))) (a1 : aa) : OT jI.Y :=
  let z0 : Nat := aa.nat a0.fst
  let z1 : aa := (kx a0.fst (ofN (aa.nat a1 % z0))).fst
  (gd [gk ((a0, a1, ()), ()), gk ((a0, z1, ()), ())] (.ok ⟨Hy, ((ofN (aa.nat z1 % z0), ()), ())⟩))
theorem aje (x : E6) (Q : jI.Y → Prop) : wpf te Dp ay 1000 Try.f90 (jI.inp.inj x).tm (jI.inp.inj x).hp (fnK jI K3 Q) (fun _ _ => False) = (OY (x.1.1) (x.1.2.1)).wpR Q := by kernel_rfl
theorem Vs (pre : E6 → Bool) (F : E6 → OT jI.Y) (hF : ∀ (x : E6) oy, pre x = true → (F x).run = some oy → (OY (x.1.1) (x.1.2.1)).run = some oy) : ab Try.prog 90 (jI.aK pre F) :=
  aE au xp Qf (f := 90) (fn := Try.f90) (c := al Try.f90) (by kernel_rfl) (by kernel_rfl) (by kernel_rfl) (S := jI) (k := 0) (by kernel_rfl) (fun R hR => af) (n := 1000) (sel := K3) (fun v o h => by cases h; rfl) (pre := pre) (F := F) (T := fun x => OY (x.1.1) (x.1.2.1)) (fun x Q => aje x Q) hF
theorem aiJ {m : aa} (h : 0 < m.nat ∧ m.nat < 57896044618658097711785492504343953926634992332820282019728792003956564819968) (a : aa) : ofN ((kx m (ofN (a.nat % m.nat))).1.nat % m.nat) = AC m.nat a := by
  have ha := Nat.mod_lt a.nat h.1
  have e := cv (n := a.nat) h
  have e2 : (kx m (ofN (a.nat % m.nat))).1.nat = m.nat - a.nat % m.nat := by
    rw [lW (by rw [e]; omega), e]
  unfold AC
  rw [e2]
def BH (x : E6) : Bool := nh x.1.1
def OZ (x : E6) : OT jI.Y := .ok ⟨Hy, ((AC x.1.1.1.nat x.1.2.1, ()), ())⟩
theorem aeV : ab Try.prog 90 (jI.aK BH OZ) := Vs _ _ fun x oy hp ho => by
  rw [← ho]
  clear ho
  obtain ⟨⟨n, a, ⟨⟩⟩, ⟨⟩⟩ := x
  have hp' : nh n = true := hp
  refine (ai ?_).trans ?_
  · simp only [List.all_cons, List.all_nil, Bool.and_true, Bool.and_eq_true]
    exact ⟨hp', hp'⟩
  · simp only [OZ, aiJ (tt hp')]
def wv : cK := (jI.aK BH OZ)
theorem OX : ab Try.prog 90 wv := aeV
theorem OW : aL wv := aD
def Db : Env := aA 90 wv Dp
theorem xl : aW Try.prog Db := ag OX xp
theorem yA : av Db := ac OW yD
theorem Qd : bm Try.prog te Db := aP follows au xl yA
def ox : ap := ⟨[.val false .int, .val true .elem, .val true .elem], [], true, 0, false⟩
abbrev VN : Type := ((Int) × (aa) × (aa) × Unit) × (Unit)
def B0 : az := ⟨[.val true .elem], [], false⟩
def SP : SV → Option az := fun _ => some B0
def abq (a0 : Int) (a1 : aa) (a2 : aa) : OT ox.Y :=
  let z0 : aa × Int × UInt64 × UInt64 × aa := bM (Int.toNat a0)
  (.br (aj a0)
  (gd [B1 ((z0, a1, a2, ()), ())] (.ok ⟨B0, ((nk (aa.nat z0.fst) a1 a2, ()), ())⟩))
  (.ok ⟨B0, (({ w0 := 0, w1 := 0, w2 := 0, w3 := 0 }, ()), ())⟩))
theorem alq (x : VN) (Q : ox.Y → Prop) : wpf te Db ay 1000 Try.f47 (ox.inp.inj x).tm (ox.inp.inj x).hp (fnK ox SP Q) (fun _ _ => False) = (abq (x.1.1) (x.1.2.1) (x.1.2.2.1)).wpR Q := by kernel_rfl
theorem abp (pre : VN → Bool) (F : VN → OT ox.Y) (hF : ∀ (x : VN) oy, pre x = true → (F x).run = some oy → (abq (x.1.1) (x.1.2.1) (x.1.2.2.1)).run = some oy) : ab Try.prog 47 (ox.aK pre F) :=
  aE au xl Qd (f := 47) (fn := Try.f47) (c := al Try.f47) (by kernel_rfl) (by kernel_rfl) (by kernel_rfl) (S := ox) (k := 0) (by kernel_rfl) (fun R hR => af) (n := 1000) (sel := SP) (fun v o h => by cases h; rfl) (pre := pre) (F := F) (T := fun x => abq (x.1.1) (x.1.2.1) (x.1.2.2.1)) (fun x Q => alq x Q) hF
def SQ (_ : VN) : Bool := true
def agf (x : VN) : OT ox.Y := .br (aj x.1.1) (.ok ⟨B0, ((nk (pS x.1.1) x.1.2.1 x.1.2.2.1, ()), ())⟩) (.ok ⟨B0, ((⟨0, 0, 0, 0⟩, ()), ())⟩)
theorem ajq : ab Try.prog 47 (ox.aK SQ agf) := abp _ _ fun x oy hp ho => by
  rw [← ho]
  clear ho
  obtain ⟨⟨s, a, b, ⟨⟩⟩, ⟨⟩⟩ := x
  cases hs : aj s
  · exact (OT.ax hs).trans (OT.ax (b := aj s) hs).symm
  · refine (OT.ao hs).trans ((ai ?_).trans (OT.ao (b := aj s) hs).symm)
    simp only [List.all_cons, List.all_nil, Bool.and_true]
    exact py hs
def BZ : cK := (ox.aK SQ agf)
theorem VM : ab Try.prog 47 BZ := ajq
theorem VL : aL BZ := aD
def Mw : Env := aA 47 BZ Db
theorem Dm : aW Try.prog Mw := ag VM xl
theorem Dn : av Mw := ac VL yA
theorem WG : bm Try.prog te Mw := aP follows au Dm Dn
def ol : ap := ⟨[.val false .int, .val true .elem], [], true, 0, false⟩
abbrev Vr : Type := ((Int) × (aa) × Unit) × (Unit)
def BG : az := ⟨[.val true .elem], [], false⟩
def SB : SV → Option az := fun _ => some BG
def aa9 (a0 : Int) (a1 : aa) : OT ol.Y :=
  let z0 : aa × Int × UInt64 × UInt64 × aa := bM (Int.toNat a0)
  (.br (aj a0)
  (gd [BH ((z0, a1, ()), ())] (.ok ⟨BG, ((AC (aa.nat z0.fst) a1, ()), ())⟩))
  (.ok ⟨BG, (({ w0 := 0, w1 := 0, w2 := 0, w3 := 0 }, ()), ())⟩))
theorem alk (x : Vr) (Q : ol.Y → Prop) : wpf te Mw ay 1000 Try.f56 (ol.inp.inj x).tm (ol.inp.inj x).hp (fnK ol SB Q) (fun _ _ => False) = (aa9 (x.1.1) (x.1.2.1)).wpR Q := by kernel_rfl
theorem aa8 (pre : Vr → Bool) (F : Vr → OT ol.Y) (hF : ∀ (x : Vr) oy, pre x = true → (F x).run = some oy → (aa9 (x.1.1) (x.1.2.1)).run = some oy) : ab Try.prog 56 (ol.aK pre F) :=
  aE au Dm WG (f := 56) (fn := Try.f56) (c := al Try.f56) (by kernel_rfl) (by kernel_rfl) (by kernel_rfl) (S := ol) (k := 0) (by kernel_rfl) (fun R hR => af) (n := 1000) (sel := SB) (fun v o h => by cases h; rfl) (pre := pre) (F := F) (T := fun x => aa9 (x.1.1) (x.1.2.1)) (fun x Q => alk x Q) hF
def SC (_ : Vr) : Bool := true
def af9 (x : Vr) : OT ol.Y := .br (aj x.1.1) (.ok ⟨BG, ((AC (pS x.1.1) x.1.2.1, ()), ())⟩) (.ok ⟨BG, ((⟨0, 0, 0, 0⟩, ()), ())⟩)
theorem ajd : ab Try.prog 56 (ol.aK SC af9) := aa8 _ _ fun x oy hp ho => by
  rw [← ho]
  clear ho
  obtain ⟨⟨s, a, ⟨⟩⟩, ⟨⟩⟩ := x
  cases hs : aj s
  · exact (OT.ax hs).trans (OT.ax (b := aj s) hs).symm
  · refine (OT.ao hs).trans ((ai ?_).trans (OT.ao (b := aj s) hs).symm)
    simp only [List.all_cons, List.all_nil, Bool.and_true]
    exact py hs
def BF : cK := (ol.aK SC af9)
theorem Vq : ab Try.prog 56 BF := ajd
theorem Vp : aL BF := aD
def Ms : Env := aA 56 BF Mw
theorem C8 : aW Try.prog Ms := ag Vq Dm
theorem Da : av Ms := ac Vp Dn
theorem WB : bm Try.prog te Ms := aP follows au C8 Da
def od : ap := ⟨[.val false .int, .val true .elem, .val true .elem], [], true, 0, false⟩
abbrev Vh : Type := ((Int) × (aa) × (aa) × Unit) × (Unit)
def rI : az := ⟨[.val true .elem], [], false⟩
def Ss : SV → Option az := fun _ => some rI
def aaZ (a0 : Int) (a1 : aa) (a2 : aa) : OT od.Y :=
  let z0 : Bool := aj a0
  let z1 : Nat := pS a0
  let z2 : aa := { w0 := 0, w1 := 0, w2 := 0, w3 := 0 }
  (.br (z0)
  (.br (z0)
    (.ok ⟨rI, ((nk z1 a1 (AC z1 a2), ()), ())⟩)
    (.ok ⟨rI, ((z2, ()), ())⟩))
  (.br (z0)
    (.ok ⟨rI, ((nk z1 a1 z2, ()), ())⟩)
    (.ok ⟨rI, ((z2, ()), ())⟩)))
theorem alg (x : Vh) (Q : od.Y → Prop) : wpf te Ms ay 1000 Try.f20 (od.inp.inj x).tm (od.inp.inj x).hp (fnK od Ss Q) (fun _ _ => False) = (aaZ (x.1.1) (x.1.2.1) (x.1.2.2.1)).wpR Q := by kernel_rfl
theorem aaY (pre : Vh → Bool) (F : Vh → OT od.Y) (hF : ∀ (x : Vh) oy, pre x = true → (F x).run = some oy → (aaZ (x.1.1) (x.1.2.1) (x.1.2.2.1)).run = some oy) : ab Try.prog 20 (od.aK pre F) :=
  aE au C8 WB (f := 20) (fn := Try.f20) (c := al Try.f20) (by kernel_rfl) (by kernel_rfl) (by kernel_rfl) (S := od) (k := 0) (by kernel_rfl) (fun R hR => af) (n := 1000) (sel := Ss) (fun v o h => by cases h; rfl) (pre := pre) (F := F) (T := fun x => aaZ (x.1.1) (x.1.2.1) (x.1.2.2.1)) (fun x Q => alg x Q) hF
def eM (p : Nat) (a b : aa) : aa := nk p a (AC p b)
def Su (_ : Vh) : Bool := true
def af7 (x : Vh) : OT od.Y := .br (aj x.1.1) (.ok ⟨rI, ((eM (pS x.1.1) x.1.2.1 x.1.2.2.1, ()), ())⟩) (.ok ⟨rI, ((⟨0, 0, 0, 0⟩, ()), ())⟩)
theorem ai2 : ab Try.prog 20 (od.aK Su af7) := aaY _ _ fun x oy hp ho => by
  rw [← ho]
  clear ho
  obtain ⟨⟨s, a, b, ⟨⟩⟩, ⟨⟩⟩ := x
  cases hs : aj s
  · exact (OT.ax hs).trans ((OT.ax hs).trans (OT.ax (b := aj s) hs).symm)
  · exact (OT.ao hs).trans ((OT.ao hs).trans (OT.ao (b := aj s) hs).symm)
def Bs : cK := (od.aK Su af7)
theorem Vg : ab Try.prog 20 Bs := ai2
theorem Vf : aL Bs := aD
def FN : Env := aA 20 Bs Ms
theorem uL : aW Try.prog FN := ag Vg C8
theorem C4 : av FN := ac Vf Da
theorem FM : bm Try.prog te FN := aP follows au uL C4
end Go.Proofs.Ytkedomfjjahjnaa

namespace Go.Proofs.Ytkedomfjjahjnaa
open Sx Go
def l6 (n : Nat) : List UInt64 := [UInt64.ofNat n, UInt64.ofNat (n / 18446744073709551616), UInt64.ofNat (n / 18446744073709551616 / 18446744073709551616), UInt64.ofNat (n / 18446744073709551616 / 18446744073709551616 / 18446744073709551616),
  UInt64.ofNat (n / 18446744073709551616 / 18446744073709551616 / 18446744073709551616 / 18446744073709551616), UInt64.ofNat (n / 18446744073709551616 / 18446744073709551616 / 18446744073709551616 / 18446744073709551616 / 18446744073709551616)]
def v6 (l : List UInt64) : Nat := (l.getD 0 0).toNat + 18446744073709551616 * ((l.getD 1 0).toNat + 18446744073709551616 * ((l.getD 2 0).toNat + 18446744073709551616 * ((l.getD 3 0).toNat + 18446744073709551616 * ((l.getD 4 0).toNat + 18446744073709551616 * (l.getD 5 0).toNat))))
theorem fA {m : Nat} {x : UInt64} (hm : m % 18446744073709551616 = x.toNat) : UInt64.ofNat m = x := by
  rw [← UInt64.toNat_inj, UInt64.toNat_ofNat']
  exact hm
theorem amj {n : Nat} {a b c d e : UInt64} {k : Nat} {f : UInt64} (h : n = a.toNat + 18446744073709551616 * (b.toNat + 18446744073709551616 * (c.toNat + 18446744073709551616 * (d.toNat + 18446744073709551616 * (e.toNat + 18446744073709551616 * k))))) (hf : k % 18446744073709551616 = f.toNat) : l6 n = [a, b, c, d, e, f] := by
  obtain ⟨h1, h0⟩ := div_eq a.toNat_lt h
  obtain ⟨h2, h3⟩ := div_eq b.toNat_lt h1
  obtain ⟨h4, h5⟩ := div_eq c.toNat_lt h2
  obtain ⟨h6, h7⟩ := div_eq d.toNat_lt h4
  obtain ⟨h8, h9⟩ := div_eq e.toNat_lt h6
  unfold l6
  rw [fA (x := a) h0, fA (x := b) h3, fA (x := c) h5, fA (x := d) h7, fA (x := e) h9, fA (x := f) (by rw [h8]; exact hf)]
theorem aaD (n : Nat) : (l6 n).length = 6 := rfl
def ake (t a x c : UInt64) : UInt64 := qw t (qw (a * x) c 0) 0
def u7 (t a x c : UInt64) : UInt64 := acQ a x + sE (a * x) c 0 + sE t (qw (a * x) c 0) 0
theorem ajW {t P p h c l k1 r k2 W : Nat} (hP : P = p + W * h) (h1 : p + c = l + W * k1) (h2 : t + l = r + W * k2) : t + P + c = r + W * (h + k1 + k2) := by
  rw [Nat.mul_add, Nat.mul_add]
  omega
theorem acI {t P c r q W : Nat} (hW : 0 < W) (ht : t ≤ W - 1) (hc : c ≤ W - 1) (hP : P ≤ (W - 1) * (W - 1)) (h : t + P + c = r + W * q) : q < W := by
  obtain ⟨V, rfl⟩ : ∃ V, W = V + 1 := ⟨W - 1, by omega⟩
  rw [Nat.add_sub_cancel] at *
  refine Nat.lt_of_not_le fun hq => ?_
  have h1 : (V + 1) * (V + 1) ≤ (V + 1) * q := Nat.mul_le_mul_left _ hq
  have h2 : (V + 1) * (V + 1) = V * V + V + V + 1 := by rw [Nat.add_mul, Nat.mul_add, Nat.one_mul, Nat.mul_one]; omega
  omega
theorem aep (a x : UInt64) : (acQ a x).toNat = a.toNat * x.toNat / 18446744073709551616 := by
  have ha := a.toNat_lt
  have hx := x.toNat_lt
  have : a.toNat * x.toNat / 18446744073709551616 < 18446744073709551616 := by
    rw [Nat.div_lt_iff_lt_mul (by omega)]
    exact Nat.mul_lt_mul'' ha hx
  unfold acQ
  rw [UInt64.toNat_ofNat', Nat.mod_eq_of_lt this]
theorem zu (t a x c : UInt64) : t.toNat + a.toNat * x.toNat + c.toNat = (ake t a x c).toNat + 18446744073709551616 * (u7 t a x c).toNat := by
  have hP : a.toNat * x.toNat = (a * x).toNat + 18446744073709551616 * (acQ a x).toNat := by
    rw [aep, UInt64.toNat_mul]
    exact (Nat.mod_add_div _ _).symm
  have h1 := jU (a * x) c 0
  have h2 := jU t (qw (a * x) c 0) 0
  rw [show (0 : UInt64).toNat = 0 from rfl, Nat.add_zero] at h1 h2
  have key := ajW hP h1 h2
  have hb := acI (W := 18446744073709551616) (by omega) (Nat.le_sub_one_of_lt t.toNat_lt) (Nat.le_sub_one_of_lt c.toNat_lt) (Nat.mul_le_mul (Nat.le_sub_one_of_lt a.toNat_lt) (Nat.le_sub_one_of_lt x.toNat_lt)) key
  have e : (u7 t a x c).toNat = (acQ a x).toNat + (sE (a * x) c 0).toNat + (sE t (qw (a * x) c 0) 0).toNat := by
    unfold u7
    rw [UInt64.toNat_add, UInt64.toNat_add, Nat.mod_add_mod]
    exact Nat.mod_eq_of_lt hb
  rw [e]
  exact key
theorem zw {t a x c s k T A R W : Nat} (h1 : t + a * x + c = s + W * k) (h2 : T + A * x + k = R) : (t + W * T) + (a + W * A) * x + c = s + W * R := by
  rw [Nat.add_mul, Nat.mul_assoc, ← h2, Nat.mul_add, Nat.mul_add]
  omega
def amP (t0 t1 t2 t3 t4 t5 : UInt64) (a : aa) (x : UInt64) : List UInt64 :=
  let k0 := u7 t0 a.w0 x 0
  let k1 := u7 t1 a.w1 x k0
  let k2 := u7 t2 a.w2 x k1
  let k3 := u7 t3 a.w3 x k2
  [ake t0 a.w0 x 0, ake t1 a.w1 x k0, ake t2 a.w2 x k1, ake t3 a.w3 x k2, qw t4 k3 0, t5 + sE t4 k3 0]
theorem ajX (t0 t1 t2 t3 t4 t5 : UInt64) (a : aa) (x : UInt64) : amP t0 t1 t2 t3 t4 t5 a x = l6 (v6 [t0, t1, t2, t3, t4, t5] + a.nat * x.toNat) := by
  have h4 := jU t4 (u7 t3 a.w3 x (u7 t2 a.w2 x (u7 t1 a.w1 x (u7 t0 a.w0 x 0)))) 0
  rw [show (0 : UInt64).toNat = 0 from rfl, Nat.add_zero] at h4
  have h5 : (t4.toNat + 18446744073709551616 * t5.toNat) + 0 * x.toNat + (u7 t3 a.w3 x (u7 t2 a.w2 x (u7 t1 a.w1 x (u7 t0 a.w0 x 0)))).toNat =
      (qw t4 (u7 t3 a.w3 x (u7 t2 a.w2 x (u7 t1 a.w1 x (u7 t0 a.w0 x 0)))) 0).toNat + 18446744073709551616 * (t5.toNat + (sE t4 (u7 t3 a.w3 x (u7 t2 a.w2 x (u7 t1 a.w1 x (u7 t0 a.w0 x 0)))) 0).toNat) := by
    rw [Nat.zero_mul, Nat.mul_add]
    omega
  have h := zw (zu t0 a.w0 x 0) (zw (zu t1 a.w1 x _) (zw (zu t2 a.w2 x _) (zw (zu t3 a.w3 x _) h5)))
  rw [show (0 : UInt64).toNat = 0 from rfl, Nat.add_zero, Nat.mul_zero, Nat.add_zero] at h
  exact (amj (f := t5 + sE t4 (u7 t3 a.w3 x (u7 t2 a.w2 x (u7 t1 a.w1 x (u7 t0 a.w0 x 0)))) 0) h (by rw [UInt64.toNat_add])).symm
end Go.Proofs.Ytkedomfjjahjnaa

namespace Go.Proofs.Ytkedomfjjahjnaa
open Sx Go
set_option maxRecDepth 100000
def oz : ap := ⟨[.val true (.arr 6 .u64), .val true .elem, .val false .u64], [], true, 0, false⟩
abbrev VR : Type := ((List (UInt64)) × (aa) × (UInt64) × Unit) × (Unit)
def B3 : Shape := ⟨61, [(2, .val false .u64), (3, .ptr 0 0 0), (4, .ptr 1 0 0), (6, .ptr 2 0 0), (7, .val false .u64), (13, .val false .int)], [(0, .row .u64), (1, .row .u64), (2, .row .u64)], 0, true⟩
abbrev cU : Type := ((UInt64) × (Unit) × (Unit) × (Unit) × (UInt64) × (Int) × Unit) × ((List (UInt64)) × (List (UInt64)) × (List (UInt64)) × Unit)
def tU : Shape := ⟨61, [(3, .ptr 0 0 0), (6, .ptr 1 0 0), (7, .val false .u64)], [(0, .row .u64), (1, .row .u64)], 0, true⟩
abbrev lH : Type := ((Unit) × (Unit) × (UInt64) × Unit) × ((List (UInt64)) × (List (UInt64)) × Unit)
def abr : SE → Option Shape := ku [(0, tU)] none
def ajv (a2 : UInt64) (a7 : UInt64) (a13 : Int) (c0 : List (UInt64)) (c1 : List (UInt64)) (c2 : List (UInt64)) : OT (Sum cU aQ) :=
  let z0 : Bool := inB a13 6
  let z1 : Bool := decide (Int.toNat a13 + 0 < List.length c0)
  let z2 : UInt64 := List.getD c1 (Int.toNat a13 + 0) (0 : UInt64)
  let z3 : UInt64 := List.getD c0 (Int.toNat a13 + 0) (0 : UInt64)
  let z4 : UInt64 := qw (z2 * a2) a7 (0 : UInt64)
  (.br (decide (a13 < (4 : Int)))
  (gd [inB a13 4, decide (Int.toNat a13 + 0 < List.length c1), z0, z1, z0, z1, inR (a13 + (1 : Int))] (.ok (.inl ((a2, ((), ((), ((), (acQ z2 a2 + sE (z2 * a2) a7 (0 : UInt64) + sE z3 z4 (0 : UInt64), (a13 + (1 : Int), ())))))), (List.set c0 (Int.toNat a13 + 0) (qw z3 z4 (0 : UInt64)), (c1, (c2, ())))))))
  (.ok (.inr ⟨(.exit 0, tU), (((), ((), (a7, ()))), (c0, (c2, ())))⟩)))
def B4 (s : cU) : OT (Sum cU aQ) := ajv (s.1.1) (s.1.2.2.2.2.1) (s.1.2.2.2.2.2.1) (s.2.1) (s.2.2.1) (s.2.2.2.1)
theorem ajs (s : cU) (Q : Sum cU aQ → Prop) : wps te FN ay 1000 (bJ (al Try.f115) 0) (B3.inj s) (cW B3 abr (Q : Sum B3.T aQ → Prop)) = (B4 s).wpR Q := by kernel_rfl
def HG (g0_0 : cU → lH) (s : cU) : OT aQ := (.ok ⟨(.exit 0, tU), g0_0 s⟩)
def Pc : az := ⟨[.val true (.arr 6 .u64)], [], false⟩
def SR : SV → Option az := fun _ => some Pc
def abv (ok0 : cU → Bool) (g0_0 : cU → lH) (a0 : List (UInt64)) (a1 : aa) (a2 : UInt64) : OT oz.Y :=
  let z0 : (UInt64 × PUnit × PUnit × PUnit × UInt64 × Int × PUnit) × List UInt64 × List UInt64 × List UInt64 × PUnit := ((a2, (), (), (), (0 : UInt64), (0 : Int), ()), tab a0 6 (0 : UInt64), [a1.w0, a1.w1, a1.w2, a1.w3], [(0 : UInt64), (0 : UInt64), (0 : UInt64), (0 : UInt64), (0 : UInt64), (0 : UInt64)], ())
  let z1 : (PUnit × PUnit × UInt64 × PUnit) × List UInt64 × List UInt64 × PUnit := g0_0 z0
  let z2 := z1.snd
  let z3 := z2.fst
  let z4 : Bool := decide (4 < List.length z3)
  let z5 : UInt64 := List.getD z3 4 0
  let z6 := z1.fst.snd.snd.fst
  let z7 : List UInt64 := List.set z3 4 (qw z5 z6 (0 : UInt64))
  let z8 : Bool := decide (5 < List.length z7)
  let z9 : List UInt64 := List.set z7 5 (List.getD z7 5 0 + sE z5 z6 (0 : UInt64))
  let z10 := z2.snd.fst
  let z11 : List UInt64 := lay z10 z9 6 (0 : UInt64)
  (gd [ok0 z0, z4, z4, z8, z8, decide (6 ≤ List.length z9), decide ((6 / 1 : Nat) + 0 ≤ List.length z10), decide (6 ≤ List.length z11)] (.ok ⟨Pc, ((tab z11 6 (0 : UInt64), ()), ())⟩))
theorem alr (ok0 : cU → Bool) (g0_0 : cU → lH) (x : VR) (Q : oz.Y → Prop) : wpf te FN (bx 0 (dw B3 0 ok0 (HG g0_0)) ay) 1000 Try.f115 (oz.inp.inj x).tm (oz.inp.inj x).hp (fnK oz SR Q) (fun _ _ => False) = (abv ok0 g0_0 (x.1.1) (x.1.2.1) (x.1.2.2.1)).wpR Q := by kernel_rfl
theorem abt (ok0 : cU → Bool) (g0_0 : cU → lH) (h0 : ∀ s : cU, ok0 s = true → ∃ m e, aq (B4) m s = some e ∧ (HG g0_0 s).run = some e) (pre : VR → Bool) (F : VR → OT oz.Y) (hF : ∀ (x : VR) oy, pre x = true → (F x).run = some oy → (abv ok0 g0_0 (x.1.1) (x.1.2.1) (x.1.2.2.1)).run = some oy) : ab Try.prog 115 (oz.aK pre F) :=
  aE au uL FM (f := 115) (fn := Try.f115) (c := al Try.f115) (by kernel_rfl) (by kernel_rfl) (by kernel_rfl) (S := oz) (k := 0) (by kernel_rfl) (fun R hR => (aI (c := (al Try.f115)) (by kernel_rfl) (id := 0) (by kernel_rfl) (bA au uL FM (sh := B3) hR (xs := abr) (aH (by kernel_rfl) (by kernel_rfl) hR) aX af (n := 1000) (T := B4) (fun s Q => ajs s Q) (ok := ok0) (f := HG g0_0) h0) af)) (n := 1000) (sel := SR) (fun v o h => by cases h; rfl) (pre := pre) (F := F) (T := fun x => abv ok0 g0_0 (x.1.1) (x.1.2.1) (x.1.2.2.1)) (fun x Q => alr ok0 g0_0 x Q) hF
def afv (a : List UInt64) (x : UInt64) (k : Nat) (s : List UInt64 × UInt64) : List UInt64 × UInt64 := (s.1.set k (ake (s.1.getD k 0) (a.getD k 0) x s.2), u7 (s.1.getD k 0) (a.getD k 0) x s.2)
def SU (s : cU) : Bool := decide (s.1.2.2.2.2.1 = 0 ∧ s.1.2.2.2.2.2.1 = 0 ∧ s.2.1.length = 6 ∧ s.2.2.1.length = 4)
def abu (s : cU) : lH := (((), (), (upto (afv s.2.2.1 s.1.1) (s.2.1, 0) 4).2, ()), ((upto (afv s.2.2.1 s.1.1) (s.2.1, 0) 4).1, s.2.2.2.1, ()))
theorem aju : ∀ s : cU, SU s = true → ∃ m e, aq B4 m s = some e ∧ (HG abu s).run = some e := by
  rintro ⟨⟨x, ⟨⟩, ⟨⟩, ⟨⟩, c, i, ⟨⟩⟩, ⟨t, a, o, ⟨⟩⟩⟩ h
  have h' := of_decide_eq_true h
  dsimp only at h'
  obtain ⟨rfl, rfl, ht, ha⟩ := h'
  have := (bI (T := B4) (fun k s => (((x, (), (), (), s.2, (k : Int), ()), (s.1, a, o, ())) : cU)) (afv a x)
    (fun s => (⟨(.exit 0, tU), (((), (), s.2, ()), (s.1, o, ()))⟩ : aQ)) 4 (t, 0) (fun _ s => s.1.length = 6) ht (fun k s hk hs => ⟨?_, ?_⟩) (fun s hs => ?_)).1
  · obtain ⟨m, hm⟩ := this
    exact ⟨m, _, hm, rfl⟩
  · refine (OT.ao (decide_eq_true (by dsimp only; omega))).trans ((ai ?_).trans ?_)
    · simp only [Int.toNat_natCast, Nat.add_zero, hs, ha, List.all_cons, List.all_nil, Bool.and_true, Bool.and_eq_true]
      exact ⟨bU (by omega), decide_eq_true (by omega), bU (by omega), decide_eq_true (by omega), bU (by omega), decide_eq_true (by omega), bC (by omega)⟩
    · simp only [OT.j4, Int.toNat_natCast, Nat.add_zero]
      rfl
  · simp only [afv, List.length_set]
    exact hs
  · exact OT.ax (decide_eq_false (by dsimp only; omega))
def SS (_ : VR) : Bool := true
def abw (x : VR) : OT oz.Y := .ok ⟨Pc, ((l6 (v6 x.1.1 + x.1.2.1.nat * x.1.2.2.1.toNat), ()), ())⟩
theorem ajt : ab Try.prog 115 (oz.aK SS abw) := abt SU abu aju _ _ fun x oy hp ho => by
  rw [← ho]
  clear ho
  obtain ⟨⟨t, a, x, ⟨⟩⟩, ⟨⟩⟩ := x
  refine (ai ?_).trans ?_
  · simp only [List.all_cons, List.all_nil, Bool.and_true, Bool.and_eq_true]
    exact ⟨rfl, rfl, rfl, rfl, rfl, rfl, rfl, rfl⟩
  · have e := ajX (t.getD 0 0) (t.getD 1 0) (t.getD 2 0) (t.getD 3 0) (t.getD 4 0) (t.getD 5 0) a x
    have e2 : l6 (v6 t + a.nat * x.toNat) = amP (t.getD 0 0) (t.getD 1 0) (t.getD 2 0) (t.getD 3 0) (t.getD 4 0) (t.getD 5 0) a x := e.symm
    simp only [abw, e2]
    rfl
def B2 : cK := (oz.aK SS abw)
theorem VQ : ab Try.prog 115 B2 := ajt
theorem VP : aL B2 := aD
def FQ : Env := aA 115 B2 FN
theorem uN : aW Try.prog FQ := ag VQ uL
theorem Dq : av FQ := ac VP C4
theorem FP : bm Try.prog te FQ := aP follows au uN Dq
end Go.Proofs.Ytkedomfjjahjnaa

namespace Go.Proofs.Ytkedomfjjahjnaa
open Sx Go
theorem akl {n : Nat} (h : n / 18446744073709551616 / 18446744073709551616 / 18446744073709551616 / 18446744073709551616 / 18446744073709551616 < 18446744073709551616) : v6 (l6 n) = n := by
  unfold v6 l6
  simp only [List.getD_cons_zero, List.getD_cons_succ, UInt64.toNat_ofNat']
  rw [show (2 : Nat) ^ 64 = 18446744073709551616 from rfl]
  omega
def zO (p neg a : Nat) (b t : Nat) : Nat := (t + a * b + p * ((t + a * b) * neg % 18446744073709551616)) / 18446744073709551616
theorem o9 {p neg a b t : Nat} (hn : (p * neg + 1) % 18446744073709551616 = 0) : 18446744073709551616 * zO p neg a b t = t + a * b + p * ((t + a * b) * neg % 18446744073709551616) := by
  unfold zO
  refine Nat.mul_div_cancel' (Nat.dvd_of_mod_eq_zero ?_)
  generalize t + a * b = u
  rw [Nat.add_mod, Nat.mul_mod, Nat.mod_mod, ← Nat.mul_mod, ← Nat.add_mod]
  have : u + p * (u * neg) = u * (p * neg + 1) := by
    rw [Nat.mul_add, Nat.mul_one, Nat.mul_left_comm]
    omega
  rw [this, Nat.mul_mod, hn, Nat.mul_zero, Nat.zero_mod]
theorem o8 {p neg a b t : Nat} (hn : (p * neg + 1) % 18446744073709551616 = 0) (ht : t < 2 * p) (ha : a < p) (hb : b < 18446744073709551616) : zO p neg a b t < 2 * p := by
  have h := o9 (a := a) (b := b) (t := t) hn
  have hm : (t + a * b) * neg % 18446744073709551616 ≤ 18446744073709551615 := by
    have := Nat.mod_lt ((t + a * b) * neg) (show 0 < 18446744073709551616 by omega)
    omega
  have h1 : p * ((t + a * b) * neg % 18446744073709551616) ≤ p * 18446744073709551615 := Nat.mul_le_mul_left _ hm
  have h2 : a * b ≤ p * 18446744073709551615 := Nat.mul_le_mul (by omega) (by omega)
  omega
theorem ah6 {p a b t t1 m K T B M W : Nat} (h1 : W * t1 = t + a * b + p * m) (h2 : K * T = t1 + a * B + p * M) : (W * K) * T = t + a * (b + W * B) + p * (m + W * M) := by
  have e : (W * K) * T = W * t1 + W * (a * B) + W * (p * M) := by rw [Nat.mul_assoc, h2, Nat.mul_add, Nat.mul_add]
  rw [e, h1, Nat.mul_add, Nat.mul_add, Nat.mul_left_comm a W, Nat.mul_left_comm p W]
  omega
theorem amQ {p a b T K M r : Nat} (h : K * T = a * b + p * M) (hr : K * r % p = 1 % p) : T % p = a * b * r % p := by
  have h1 : (K * T) * r = a * b * r + p * (M * r) := by rw [h, Nat.add_mul, Nat.mul_assoc p]
  have h2 : a * b * r % p = (K * T * r) % p := by rw [h1, Nat.add_mul_mod_self_left]
  have h3 : K * T * r = T * (K * r) := by rw [Nat.mul_comm K T, Nat.mul_assoc]
  rw [h2, h3, Nat.mul_mod, hr, ← Nat.mul_mod, Nat.mul_one]
def akW (p neg a : Nat) (b : aa) : Nat := zO p neg a b.w3.toNat (zO p neg a b.w2.toNat (zO p neg a b.w1.toNat (zO p neg a b.w0.toNat 0)))
theorem aez {p neg a r : Nat} {b : aa} (hn : (p * neg + 1) % 18446744073709551616 = 0) (hr : 115792089237316195423570985008687907853269984665640564039457584007913129639936 * r % p = 1 % p) : akW p neg a b % p = a * b.nat * r % p := by
  have h := ah6 (o9 (a := a) (b := b.w0.toNat) (t := 0) hn) (ah6 (o9 (a := a) (b := b.w1.toNat) hn) (ah6 (o9 (a := a) (b := b.w2.toNat) hn) (show 18446744073709551616 * _ = _ + a * b.w3.toNat + p * _ from o9 hn)))
  rw [Nat.zero_add] at h
  exact amQ (K := 18446744073709551616 * (18446744073709551616 * (18446744073709551616 * 18446744073709551616))) h hr
theorem aiV {p neg a : Nat} {b : aa} (hn : (p * neg + 1) % 18446744073709551616 = 0) (ha : a < p) : akW p neg a b < 2 * p :=
  o8 hn (o8 hn (o8 hn (o8 hn (by omega) ha b.w0.toNat_lt) ha b.w1.toNat_lt) ha b.w2.toNat_lt) ha b.w3.toNat_lt
theorem aiW {T p : Nat} (h : T < 2 * p) : T % p = if T < p then T else T - p := by
  split
  · exact Nat.mod_eq_of_lt ‹_›
  · rw [Nat.mod_eq_sub_mod (by omega), Nat.mod_eq_of_lt (by omega)]
end Go.Proofs.Ytkedomfjjahjnaa
