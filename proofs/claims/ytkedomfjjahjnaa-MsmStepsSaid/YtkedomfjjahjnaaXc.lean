/- A symbolic machine for Go code over plain data, and functions of the program as it shows them. No statement is proved in this file. -/
import Derived.ProofKit
import Derived.Below
import Derived.OpenShut
import Derived.SizedLaws
import Derived.WalkKit
import Derived.ChangeOld
import Derived.Test.YtkedomfjjahjnaaProg
import Derived.KernelRfl
import Derived.Laws.Externs
import Derived.Lib.Mul64
import Derived.Test.YtkedomfjjahjnaaXb
set_option linter.unusedSimpArgs false
set_option linter.unusedVariables false
set_option linter.unusedSectionVars false

namespace Go.Proofs.Ytkedomfjjahjnaa
namespace Sx
open Go
theorem kc : ∀ {l : List (Nat × Sh)} {x : SlT l} {tm : List SV}, (eI l x tm).length = tm.length
  | [], _, _ => rfl
  | c :: r, x, tm => by simp only [eI, kc, List.length_set]
theorem rL : ∀ {rs : List Sh} {i j : Nat} {x : SlT (indexed j rs)} {tm : List SV}, i < j → (eI (indexed j rs) x tm)[i]? = tm[i]?
  | [], _, _, _, _, _ => rfl
  | s :: r, i, j, x, tm, h => by
    simp only [indexed, eI]
    refine (rL (rs := r) (i := i) (j := j + 1) (x := x.2) (by omega)).trans ?_
    rw [List.getElem?_set_ne (by omega)]
theorem oh {N R : Ctx} {ν : Nm} {lists : Bool} (hr : Ks N R ν lists) : ∀ {rs : List Sh} (_ : lists = true ∨ rs.any Sh.cG = false) {i : Nat} {y : SlT (indexed i rs)} {tm : List SV} {us : List Value}, tm.length = i + rs.length →
    SV.bO N (eI (indexed i rs) y tm) us → SV.bO R (aq.emit.go ν i rs y) (us.drop i)
  | [], _, i, y, tm, us, hl, h => by
    have := SV.aP h
    simp only [indexed, eI] at this
    simp only [List.length_nil] at hl
    simp only [aq.emit.go]
    rw [List.drop_eq_nil_of_le (by omega)]
    exact qe
  | s :: r, hl', i, y, tm, us, hl, h => by
    have h1 : lists = true ∨ s.cG = false := hl'.imp_right fun e => by simp only [List.any_cons, Bool.or_eq_false_iff] at e; exact e.1
    have h2 : lists = true ∨ r.any Sh.cG = false := hl'.imp_right fun e => by simp only [List.any_cons, Bool.or_eq_false_iff] at e; exact e.2
    simp only [List.length_cons] at hl
    have hlen := SV.aP h
    rw [kc] at hlen
    have hi : i < us.length := by omega
    have ih := oh hr h2 (i := i + 1) (y := y.2) (tm := tm.set i (o4 s y.1)) (us := us) (by rw [List.length_set]; omega) h
    have hi2 : i < (eI (indexed i (s :: r)) y tm).length := by rw [kc]; omega
    have hv := SV.kC h i hi2 hi
    have hg : (eI (indexed i (s :: r)) y tm)[i] = o4 s y.1 := by
      have : (eI (indexed i (s :: r)) y tm)[i]? = some (o4 s y.1) := by
        simp only [indexed, eI]
        refine (rL (rs := r) (i := i) (j := i + 1) (x := y.2) (by omega)).trans ?_
        rw [List.getElem?_set_self (by omega)]
      rw [List.getElem?_eq_getElem hi2] at this
      exact Option.some.inj this
    rw [hg] at hv
    simp only [aq.emit.go]
    rw [List.drop_eq_getElem_cons hi]
    simp only [SV.bO]
    exact ⟨_, _, rfl, K3 hr h1 hv, ih⟩
theorem DQ {ν : Nm} : ∀ {rs : List Sh} {i : Nat} {y : SlT (indexed i rs)}, (aq.emit.go ν i rs y).length = rs.length
  | [], _, _ => rfl
  | s :: r, i, y => by simp only [aq.emit.go, List.length_cons, DQ]
theorem agt {R : Ctx} {n : Nat} {x : SV} {v : Value} {l : List SV} (hv : SV.rel R x v) (hn : (abl n x).length = n) (hl : l.length = n) : ∃ us, SV.bO R (abl n x) us ∧ ∀ R', SV.bO R' l us → SV.rel R' (oneOf l) v := by
  unfold abl at hn ⊢
  cases hb : Nat.beq n 1
  · rw [hb] at hn
    simp only [cond_false] at hn ⊢
    have hne : n ≠ 1 := fun e => by subst e; cases hb
    cases x <;> simp only [List.length_replicate] at hn ⊢ <;> try omega
    case tup q =>
      simp only [SV.rel] at hv
      obtain ⟨vs, rfl, h1⟩ := hv
      refine ⟨vs, h1, fun R' h2 => ?_⟩
      cases l with
      | nil => simp only [oneOf, SV.rel]; exact ⟨vs, rfl, h2⟩
      | cons a l =>
        cases l with
        | nil => simp at hl; omega
        | cons b l => simp only [oneOf, SV.rel]; exact ⟨vs, rfl, h2⟩
  · have := Nat.eq_of_beq_eq_true hb
    subst this
    simp only [cond_true]
    refine ⟨[v], aX hv, fun R' h2 => ?_⟩
    cases l with
    | nil => simp at hl
    | cons a l =>
      cases l with
      | nil =>
        simp only [oneOf]
        obtain ⟨v', e, h⟩ := cp h2
        cases e
        exact h
      | cons b l => simp at hl
section
variable {P : Program} {te : TE} {Φ : Env} (hte : kx P te) (hΦ : aV P Φ) (hany : bg P te Φ)
theorem ad4 {R N1 : Ctx} {w w' : World} {S : aq} {args : List SV} {x : S.T} {k d : Nat} (hm : di R w) (hx : S.inp.prj ⟨args, R.hp⟩ = some x)
    (hk : S.chunks.all (fun c => Nat.blt c.1 k && !c.2.u4) = true)
    (h1 : (R.named (R.zB (S.inp.bd ⟨args, R.hp⟩) S.bH w) (R.FC (S.inp.bd ⟨args, R.hp⟩) S.bH w) (S.inp.bd ⟨args, R.hp⟩) (dH S.chunks x.2)).Ext N1) (hm1 : di N1 w') {o : ay} {y : (o.shape S.fixed).T} {pan : Bool} {v : SV} {u : Value}
    (hv : SV.rel N1 v u) (hy : o.is y pan v N1.hp) (hend : S.sW (S.inp.bd ⟨args, R.hp⟩) R.hp (fresh R.hp d) o = true) :
    ∃ R', eJ R R' w' (cR (S.inp.bd ⟨args, R.hp⟩) R.hp S.fixed S.chunks ++ jt (S.nm (S.inp.bd ⟨args, R.hp⟩) R.hp (fresh R.hp d)) o.chunks y.2) ∧
      SV.rel R' (oneOf (aq.emit.indexedN (S.nm (S.inp.bd ⟨args, R.hp⟩) R.hp (fresh R.hp d)) o.rs y.1)) u := by
  obtain ⟨_, hy⟩ := hy
  unfold Shape.prj at hx
  dsimp only at hx
  generalize hbd : S.inp.bd ⟨args, R.hp⟩ = bd at *
  cases hb : S.inp.Fp ⟨args, R.hp⟩ bd && Nat.beq args.length S.inp.n
  · rw [hb] at hx; cases hx
  · rw [hb] at hx
    rw [Bool.and_eq_true] at hb
    obtain ⟨hx1, hx2⟩ := bB hx
    have hy' := hy
    unfold Shape.prj at hy'
    dsimp only at hy'
    cases hb2 : (o.shape S.fixed).Fp ⟨abl o.rs.length v, N1.hp⟩ ((o.shape S.fixed).bd ⟨abl o.rs.length v, N1.hp⟩) && Nat.beq (abl o.rs.length v).length (o.shape S.fixed).n
    · rw [hb2] at hy'; cases hy'
    · rw [hb2] at hy'
      rw [Bool.and_eq_true] at hb2
      obtain ⟨hy1, hy2⟩ := bB hy'
      have hlen : (abl o.rs.length v).length = o.rs.length := Nat.eq_of_beq_eq_true hb2.2
      obtain ⟨us, hus, hback⟩ := agt (l := aq.emit.indexedN (S.nm bd R.hp (fresh R.hp d)) o.rs y.1) hv hlen DQ
      have hsm : Small ((R.named (R.zB bd S.bH w) (R.FC bd S.bH w) bd (dH S.chunks x.2)).aoX S.fixed) (o.shape S.fixed).fixed := fun c ch hc => by
        replace hc : cond (Nat.blt c S.fixed) (dH S.chunks x.2 c) none = some ch := hc
        cases hq : Nat.blt c S.fixed
        · rw [hq] at hc; cases hc
        · rw [hq] at hc
          refine ⟨cL hq, ?_⟩
          obtain ⟨s, y', g1, g2, g3⟩ := dN hx2 (hc : dH S.chunks x.2 c = some ch)
          have := (List.all_eq_true.1 hk) _ g1
          simp only [Bool.and_eq_true, Bool.not_eq_true'] at this
          rw [g3]
          cases s <;> first | rfl | (cases this.2; done)
      have hext : ((R.named (R.zB bd S.bH w) (R.FC bd S.bH w) bd (dH S.chunks x.2)).aoX S.fixed).Ext N1 := ⟨h1.F, h1.U, fun c ch hc => by
        replace hc : cond (Nat.blt c S.fixed) (dH S.chunks x.2 c) none = some ch := hc
        cases hq : Nat.blt c S.fixed
        · rw [hq] at hc; cases hc
        · rw [hq] at hc
          exact h1.ch c ch hc⟩
      obtain ⟨N2, g1, g2⟩ := Shape.apM (s := o.shape S.fixed) (a := { tmps := us.toArray, defers := [] }) hsm hext ⟨rfl, hm1, hus, rfl⟩ hy
      have hd2 : distinct (o.chunks.map (·.1)) = true := by
        have := hb2.1
        unfold Shape.Fp at this
        simp only [Bool.and_eq_true] at this
        exact this.1.1.1
      have H : tK R w w' S args bd x.2 N2 o y.2 (fresh R.hp d) := ⟨hm, hb.1, hx2, g1, g2.mem, g2.hp, ⟨_, _, _, hy2⟩, hd2, hend⟩
      refine ⟨R.dC bd w S N2 o y.2 (fresh R.hp d), YX H, hback _ ?_⟩
      have ht := g2.tm
      have := oh (abn H) (rs := o.rs) ?_ (i := 0) (y := y.1) (tm := List.replicate o.rs.length .cm) (us := us) (by simp) ht
      · exact this
      · rcases nu H with h | h
        · exact .inl (by rw [h]; rfl)
        · exact .inr h.1
include hte hΦ hany
theorem amg {f : FuncId} {fn : Func} {c : Code} (hf : P.funcs[f]? = some fn) (hb : fn.body = some c) (hname : (fn.name == "runtime.NumGoroutine") = false) {S : aq} {k : Nat} (hk : S.chunks.all (fun c => Nat.blt c.1 k && !c.2.u4) = true) {Λ : Lam}
    (hΛ : ∀ R, Small R k → Ed P R Λ c) {n : Nat} {pre : S.T → Bool} {F : S.T → OT S.Y}
    (h : ∀ x oy, pre x = true → (F x).run = some oy → ∃ K Kp, wpf te Φ Λ n fn (S.inp.inj x).tm (S.inp.inj x).hp K Kp ∧ (∀ v hp, K v hp → oy.1.is oy.2 false v hp) ∧ ∀ v hp, Kp v hp → oy.1.is oy.2 true v hp) : ab P f (S.aK pre F) := by
  refine ⟨?_⟩
  intro R w d args vs out hm hr hrun
  refine .inl ⟨fn, hf, hname, by rw [hb]; rfl, ?_⟩
  simp only [aq.aK] at hrun
  split at hrun
  · cases hrun
  · rename_i x hx
    obtain ⟨hpre, h2⟩ := OT.aE hrun
    obtain ⟨oy, h3, h4⟩ := OT.run_bind h2
    unfold aq.emit at h4
    dsimp only at h4
    obtain ⟨hend, h5⟩ := OT.aE h4
    obtain ⟨K, Kp, hwp, hK1, hK2⟩ := h x oy hpre h3
    have hx' := hx
    unfold Shape.prj at hx'
    dsimp only at hx'
    cases hbo : S.inp.Fp ⟨args, R.hp⟩ (S.inp.bd ⟨args, R.hp⟩) && Nat.beq args.length S.inp.n
    · rw [hbo] at hx'; cases hx'
    · rw [hbo] at hx'
      rw [Bool.and_eq_true] at hbo
      obtain ⟨hx1, hx2⟩ := bB hx'
      have hlen : args.length = S.inp.n := Nat.eq_of_beq_eq_true hbo.2
      have hN := IZ (s := S.inp) (st := ⟨args, R.hp⟩) (F' := R.zB (S.inp.bd ⟨args, R.hp⟩) S.bH w) (U' := R.FC (S.inp.bd ⟨args, R.hp⟩) S.bH w) hbo.1 hx2 rfl hm (M3 hm) (Jr hm) adC (M0 hm) MZ ai0 hm.env
      have hargs : SV.bO (R.named (R.zB (S.inp.bd ⟨args, R.hp⟩) S.bH w) (R.FC (S.inp.bd ⟨args, R.hp⟩) S.bH w) (S.inp.bd ⟨args, R.hp⟩) (dH S.chunks x.2)) (S.inp.inj x).tm vs :=
        kJ (s := S.inp) (st := ⟨args, R.hp⟩) hbo.1 hx2 rfl hm (M3 hm) (Jr hm) hr hx1 (SV.wM (by rw [List.length_replicate, ← hlen]; exact SV.aP hr) fun i hi hi' => by simp [SV.rel])
      have hsm : Small (R.named (R.zB (S.inp.bd ⟨args, R.hp⟩) S.bH w) (R.FC (S.inp.bd ⟨args, R.hp⟩) S.bH w) (S.inp.bd ⟨args, R.hp⟩) (dH S.chunks x.2)) k := fun c ch hc => by
        obtain ⟨s, y', g1, g2, g3⟩ := dN hx2 (hc : dH S.chunks x.2 c = some ch)
        have := (List.all_eq_true.1 hk) _ g1
        simp only [Bool.and_eq_true, Bool.not_eq_true'] at this
        refine ⟨cL this.1, ?_⟩
        rw [g3]
        cases s <;> first | rfl | (cases this.2; done)
      refine (Zz hte hΦ hany hf hb (hΛ _ hsm) hN hargs hwp).mono fun en w' hp => ?_
      rcases hp with ⟨y, v, R₁, rfl, hx1, hm1, hv, hy⟩ | ⟨y, v, R₁, rfl, hx1, hm1, hv, hy⟩
      · replace hy := hK1 _ _ hy
        obtain ⟨R', a1, a2⟩ := ad4 hm hx hk hx1 hm1 hv hy hend
        rw [hy.1] at h5
        cases h5
        exact ⟨v, R', rfl, a1, a2⟩
      · replace hy := hK2 _ _ hy
        obtain ⟨R', a1, a2⟩ := ad4 hm hx hk hx1 hm1 hv hy hend
        rw [hy.1] at h5
        cases h5
        exact ⟨v, R', rfl, a1, a2⟩
end
end Sx
end Go.Proofs.Ytkedomfjjahjnaa

namespace Go.Proofs.Ytkedomfjjahjnaa
namespace Sx
open Go
theorem Ow {b : Bd} {n m : Nat} {o o' : Option Nat} (h : cX b m = some o') : cX (Sn b n o) m = some o' := by
  unfold Sn
  split
  · exact h
  · rename_i hn
    simp only [cX]
    cases hb : Nat.beq n m
    · exact h
    · have := Nat.eq_of_beq_eq_true hb
      subst this
      rw [h] at hn
      cases hn
theorem zH : ∀ {ns : List Nat} {l : List SV} {b : Bd} {m : Nat} {o : Option Nat}, cX b m = some o → cX (Bb ns l b) m = some o
  | [], _, _, _, _, h => h
  | n :: ns, [], _, _, _, h => h
  | n :: ns, y :: r, b, m, o, h => by
    cases y <;> simp only [Bb] <;> first | exact h | exact zH (Ow h)
theorem Sj {s : Sh} {x : SV} {b : Bd} {m : Nat} {o : Option Nat} (h : cX b m = some o) : cX (Ki s x b) m = some o := by
  unfold Ki
  split <;> first | exact h | exact Ow h | exact zH h
theorem nz : ∀ {l : List Sh} {cs : List SV} {b : Bd} {m : Nat} {o : Option Nat}, cX b m = some o → cX (mq l cs b) m = some o
  | [], _, _, _, _, h => h
  | s :: r, cs, b, m, o, h => by
    simp only [mq]
    exact nz (Sj h)
theorem lj {hp : Hp} : ∀ {l : List (Nat × CSh)} {b : Bd} {m : Nat} {o : Option Nat}, cX b m = some o → cX (eB hp l b) m = some o
  | [], _, _, _, h => h
  | (n, s) :: r, b, m, o, h => by
    cases s <;> simp only [eB]
    case cells l =>
      refine lj ?_
      split
      · split
        · exact nz h
        · exact h
      · exact h
    all_goals exact lj h
section
variable {d : Nat} {hp hp' : Hp} (hg : Zb d hp hp')
include hg
theorem iX : ∀ {l : List (Nat × CSh)} {b : Bd}, (∀ q ∈ l, ∀ c, cX (eB hp l b) q.1 = some (some c) → hp c ≠ none) → eB hp' l b = eB hp l b
  | [], _, _ => rfl
  | (n, s) :: r, b, h => by
    cases s <;> simp only [eB] at h ⊢
    case cells l =>
      have e : (match cX b n with | some (some c) => (match hp' c with | some ⟨_, .cells vs⟩ => mq l vs b | _ => b) | _ => b) = (match cX b n with | some (some c) => (match hp c with | some ⟨_, .cells vs⟩ => mq l vs b | _ => b) | _ => b) := by
        split
        · rename_i c hc
          have h1 := h (n, .cells l) (by simp) c (lj (by
            split
            · split
              · exact nz hc
              · exact hc
            · exact hc))
          cases hq : hp c with
          | none => exact absurd hq h1
          | some ch => rw [hg.kb _ _ hq]
        · rfl
      exact (congrArg (eB hp' r) e).trans (iX fun q hq c hc => h q (List.mem_cons_of_mem _ hq) c hc)
    all_goals exact iX fun q hq c hc => h q (List.mem_cons_of_mem _ hq) c hc
theorem nn {bd : Bd} {n c e : Nat} (h : xX bd hp n c e = true) : xX bd hp' n c e = true := by
  unfold xX at h ⊢
  split at h
  · rename_i c' hc
    rw [Bool.and_eq_true] at h
    have h2 := h.2
    split at h2
    · rename_i ch hch
      rw [hg.kb _ _ hch]
      simp only
      rw [h.1, h2]
      rfl
    · cases h2
  · cases h
theorem vx {bd : Bd} : ∀ {ns : List Nat} {l : List SV}, tb bd hp ns l = true → tb bd hp' ns l = true
  | [], [], _ => rfl
  | [], _ :: _, h => by cases h
  | n :: ns, [], h => by cases h
  | n :: ns, y :: r, h => by
    cases y <;> simp only [tb] at h ⊢ <;> try (cases h; done)
    simp only [Bool.and_eq_true] at h ⊢
    exact ⟨⟨⟨nn hg h.1.1.1, h.1.1.2⟩, h.1.2⟩, vx h.2⟩
theorem Rk {bd : Bd} {s : Sh} {cs : List SV} (h : kw bd hp s cs = true) : kw bd hp' s cs = true := by
  unfold kw at h ⊢
  split at h
  · exact nn hg h
  · exact h
  · simp only [Bool.and_eq_true] at h ⊢
    exact ⟨⟨nn hg h.1.1, h.1.2⟩, h.2⟩
  · simp only [Bool.and_eq_true] at h ⊢
    exact ⟨h.1, vx hg h.2⟩
  · simp only [Bool.and_eq_true] at h ⊢
    exact ⟨h.1, nn hg h.2.1, h.2.2⟩
  · rfl
  · rfl
  · rfl
  · cases h
theorem Km {ok : Nat → Bool} {t : Ty} {x : SV} {ys : List t.T} (h : yE ok t hp x = some ys) : yE ok t hp' x = some ys := by
  have key : ∀ {c : Nat} {f : Option Ch → Option (List t.T)}, f none = none → f (hp c) = some ys → f (hp' c) = some ys := fun {c f} h0 h => by
    cases hq : hp c with
    | none => rw [hq, h0] at h; cases h
    | some ch => rw [hg.kb _ _ hq, ← hq]; exact h
  cases x <;> simp only [yE] at h ⊢ <;> try (first | exact h | (cases h; done))
  case own c e => exact key (c := c) (f := fun o => match o with | some ⟨ep, .row t' xs⟩ => cond (Nat.beq ep e && ok c) (bT t t' xs) none | some ⟨ep, .frz t' xs⟩ => cond (Nat.beq ep e) (bT t t' xs) none | _ => none) rfl h
  case clip c e => exact key (c := c) (f := fun o => match o with | some ⟨ep, .row t' xs⟩ => cond (Nat.beq ep e && ok c) (bT t t' xs) none | some ⟨ep, .frz t' xs⟩ => cond (Nat.beq ep e) (bT t t' xs) none | _ => none) rfl h
  case part c e off len => exact key (c := c) (f := fun o => match o with | some ⟨ep, .row t' xs⟩ => cond (Nat.beq ep e && ok c) ((bT t t' xs).map fun l => (l.drop off).take len) none | some ⟨ep, .frz t' xs⟩ => cond (Nat.beq ep e) ((bT t t' xs).map fun l => (l.drop off).take len) none | _ => none) rfl h
theorem mY {ok : Nat → Bool} : ∀ {t : Ty} {cs : List SV} {x : t.T}, sw ok hp t cs = some x → sw ok hp' t cs = some x
  | .bool, _, _, h => h
  | .u64, _, _, h => h
  | .u8, _, _, h => h
  | .int, _, _, h => h
  | .str, _, _, h => h
  | .elem, _, _, h => h
  | .prod a b, cs, x, h => by
    obtain ⟨h1, h2⟩ := bB h
    simp only [sw, mY h1, mY h2, oJ]
  | .arr n t, cs, x, h => by
    simp only [sw] at h ⊢
    split at h
    · rename_i hl
      rw [if_pos hl]
      exact jo (fun _ _ => mY) h
    · cases h
  | .list t, cs, x, h => by
    simp only [sw] at h ⊢
    split at h
    · rename_i hp0
      rw [if_pos hp0]
      obtain ⟨y, rfl, hy⟩ := lL h
      simp only [aiT]
      exact Km hg hy
    · cases h
omit hg in
theorem QD {a b : Bool} {x : Unit} (hab : a = true → b = true) (h : Fz a = some x) : Fz b = some x := by
  rw [hab (gX h)]; rfl
theorem zo {bd : Bd} {ok : Nat → Bool} {s : Sh} {cs : List SV} {x : s.T} (h : oG bd ok hp s cs = some x) : oG bd ok hp' s cs = some x := by
  cases s <;> simp only [oG] at h ⊢
  case val b t => exact mY hg h
  all_goals exact QD (Rk hg) h
theorem IJ {bd : Bd} {ok : Nat → Bool} {s : Sh} {y : SV} {x : s.T} (h : xv bd ok hp s y = some x) : xv bd ok hp' s y = some x := by
  unfold xv at h ⊢
  split at h
  · exact zo hg h
  · cases h
theorem rK {bd : Bd} {ok : Nat → Bool} : ∀ {l : List Sh} {cs : List SV} {x : ShT l}, kK bd ok hp l cs = some x → kK bd ok hp' l cs = some x
  | [], [], _, h => h
  | [], _ :: _, _, h => by cases h
  | s :: r, cs, x, h => by
    obtain ⟨h1, h2⟩ := bB (show oJ (oG bd ok hp s (cs.take s.size)) (kK bd ok hp r (cs.drop s.size)) = some x from h)
    show oJ (oG bd ok hp' s (cs.take s.size)) (kK bd ok hp' r (cs.drop s.size)) = some x
    rw [zo hg h1, rK h2]
    rfl
theorem rI {bd : Bd} {ok : Nat → Bool} {tm : List SV} : ∀ {l : List (Nat × Sh)} {x : SlT l}, qy bd ok hp tm l = some x → qy bd ok hp' tm l = some x
  | [], _, h => h
  | c :: r, x, h => by
    obtain ⟨h1, h2⟩ := bB h
    simp only [qy, IJ hg h1, rI h2, oJ]
    rfl
theorem Fx {bd : Bd} {ok : Nat → Bool} {s : CSh} {b : Chunk} {x : s.T} (h : gm bd ok hp s b = some x) : gm bd ok hp' s b = some x := by
  cases s <;> cases b <;> simp only [gm] at h ⊢ <;> first | exact h | exact rK hg h
theorem Mg {bd : Bd} {ok : Nat → Bool} {n : Nat} {s : CSh} {x : s.T} (h : iZ bd ok hp n s = some x) : iZ bd ok hp' n s = some x := by
  unfold iZ at h ⊢
  split at h
  · split at h
    · rename_i ch hch
      rw [hg.kb _ _ hch]
      exact Fx hg h
    · cases h
  · exact h
  · exact h
theorem oH {bd : Bd} {ok : Nat → Bool} : ∀ {l : List (Nat × CSh)} {x : Fo l}, dK bd ok hp l = some x → dK bd ok hp' l = some x
  | [], _, h => h
  | c :: r, x, h => by
    obtain ⟨h1, h2⟩ := bB h
    simp only [dK, Mg hg h1, oH h2, oJ]
    rfl
omit hg in
theorem mX {bd : Bd} {ok : Nat → Bool} : ∀ {l : List (Nat × CSh)} {x : Fo l}, dK bd ok hp l = some x → ∀ q ∈ l, ∀ c, cX bd q.1 = some (some c) → hp c ≠ none
  | [], _, _, _, hq, _, _ => by cases hq
  | c :: r, x, h, q, hq, c', hb => by
    obtain ⟨h1, h2⟩ := bB h
    rcases List.mem_cons.1 hq with he | he
    · subst he
      unfold iZ at h1
      rw [hb] at h1
      simp only at h1
      intro hn
      rw [hn] at h1
      cases h1
    · exact mX h2 q he c' hb
theorem acs {s : Shape} (hfx : s.fixed = 0) {tm : List SV} {x : s.T} (h : s.prj ⟨tm, hp⟩ = some x) : s.prj ⟨tm, hp'⟩ = some x ∧ s.bd ⟨tm, hp'⟩ = s.bd ⟨tm, hp⟩ := by
  unfold Shape.prj at h ⊢
  dsimp only at h ⊢
  cases hb : s.Fp ⟨tm, hp⟩ (s.bd ⟨tm, hp⟩) && Nat.beq tm.length s.n
  · rw [hb] at h; cases h
  · rw [hb] at h
    obtain ⟨h1, h2⟩ := bB h
    have e : s.bd ⟨tm, hp'⟩ = s.bd ⟨tm, hp⟩ := iX hg (mX h2)
    have e2 : s.Fp ⟨tm, hp'⟩ (s.bd ⟨tm, hp⟩) = s.Fp ⟨tm, hp⟩ (s.bd ⟨tm, hp⟩) := by
      unfold Shape.Fp
      rw [hfx]
      rfl
    refine ⟨?_, e⟩
    rw [e, e2, hb, cond_true, rI hg h1, oH hg h2]
    rfl
theorem Hg {c : Nat} (h : hp c ≠ none) : VM hp' c = VM hp c := by
  unfold VM
  cases hq : hp c with
  | none => exact absurd hq h
  | some ch => rw [hg.kb _ _ hq]
theorem tT {bd : Bd} {fixed : Nat} : ∀ {l : List (Nat × CSh)}, (∀ q ∈ l, ∀ c, cX bd q.1 = some (some c) → hp c ≠ none) → cR bd hp' fixed l = cR bd hp fixed l
  | [], _ => rfl
  | c :: r, h => by
    have ih := tT (bd := bd) (fixed := fixed) (l := r) fun q hq => h q (List.mem_cons_of_mem _ hq)
    simp only [cR, ih]
    cases Nat.blt c.1 fixed
    · simp only [cond_false]
      split
      · rename_i o ho
        rw [Hg hg (h c (by simp) o ho)]
      · rfl
    · rfl
theorem ahX {S : aq} {pre : S.T → Bool} {F : S.T → OT S.Y} {args : List SV} {out : Out} (h : ((S.aK pre F).f d args hp).run = some out) : ((S.aK pre F).f d args hp').run = some out := by
  simp only [aq.aK] at h ⊢
  split at h
  · cases h
  · rename_i x hx
    obtain ⟨e1, e2⟩ := acs hg (s := S.inp) rfl hx
    rw [e1]
    simp only
    rw [e2]
    obtain ⟨h1, h2⟩ := OT.aE h
    rw [h1]
    obtain ⟨oy, h3, h4⟩ := OT.run_bind h2
    have hold : ∀ q ∈ S.chunks, ∀ c, cX (S.inp.bd ⟨args, hp⟩) q.1 = some (some c) → hp c ≠ none := by
      have hx' := hx
      unfold Shape.prj at hx'
      dsimp only at hx'
      cases hb : S.inp.Fp ⟨args, hp⟩ (S.inp.bd ⟨args, hp⟩) && Nat.beq args.length S.inp.n
      · rw [hb] at hx'; cases hx'
      · rw [hb] at hx'
        obtain ⟨_, h2⟩ := bB hx'
        exact mX h2
    have hbok : ∀ p ∈ S.inp.bd ⟨args, hp⟩, ∃ q ∈ S.chunks, q.1 = p.1 := by
      have hx' := hx
      unfold Shape.prj at hx'
      dsimp only at hx'
      cases hb : S.inp.Fp ⟨args, hp⟩ (S.inp.bd ⟨args, hp⟩) && Nat.beq args.length S.inp.n
      · rw [hb] at hx'; cases hx'
      · rw [Bool.and_eq_true] at hb
        have := hb.1
        unfold Shape.Fp at this
        simp only [Bool.and_eq_true, List.all_eq_true, List.any_eq_true] at this
        intro p hp
        obtain ⟨q, hq, he⟩ := this.1.2 p hp
        exact ⟨q, hq, Nat.eq_of_beq_eq_true he⟩
    have hepN : ∀ n c, cX (S.inp.bd ⟨args, hp⟩) n = some (some c) → VM hp' c = VM hp c := fun n c hc => by
      obtain ⟨q, hq, he⟩ := hbok _ (jq hc)
      exact Hg hg (hold q hq c (by rw [he]; exact hc))
    unfold aq.emit at h4
    dsimp only at h4
    obtain ⟨hend, h5⟩ := OT.aE h4
    -- the names
    have hfr : fresh hp' d = fresh hp d := ia hg
    have hnm : ∀ n, S.fixed ≤ n ∨ (∃ c, cX (S.inp.bd ⟨args, hp⟩) n = some (some c)) → S.nm (S.inp.bd ⟨args, hp⟩) hp' (fresh hp d) n = S.nm (S.inp.bd ⟨args, hp⟩) hp (fresh hp d) n := fun n hn => by
      unfold aq.nm
      cases hb : Nat.blt n S.fixed
      · rfl
      · rcases hn with hn | ⟨c, hn⟩
        · have := cL hb; omega
        · simp only [cond_true, nameOf, hn, hepN n c hn]
    have hnmall : S.nm (S.inp.bd ⟨args, hp⟩) hp' (fresh hp d) = S.nm (S.inp.bd ⟨args, hp⟩) hp (fresh hp d) := by
      funext n
      rcases Nat.lt_or_ge n S.fixed with hn | hn
      · refine hnm n (.inr ?_)
        have he := hend
        unfold aq.sW at he
        simp only [Bool.and_eq_true, List.all_eq_true] at he
        have h6 := (he.2.1 n (by simpa using hn)).1
        split at h6
        · rename_i c hc; exact ⟨c, hc⟩
        · cases h6
      · exact hnm n (.inl hn)
    have hend' : S.sW (S.inp.bd ⟨args, hp⟩) hp' (fresh hp d) oy.1 = true := by
      have he := hend
      unfold aq.sW at he ⊢
      simp only [Bool.and_eq_true] at he ⊢
      refine ⟨he.1, he.2.1, he.2.2.1, ?_⟩
      have h6 := he.2.2.2
      simp only [List.all_eq_true, Bool.and_eq_true, Bool.or_eq_true] at h6 ⊢
      intro q hq
      refine ⟨(h6 q hq).1, (h6 q hq).2.imp_right fun h7 => ⟨h7.1, ?_⟩⟩
      have h8 := h7.2
      have hlt := cL h7.1
      cases hz : hp (fresh hp d + (q.1 - S.fixed)) with
      | some ch => rw [hz] at h8; cases h8
      | none =>
        rw [hg.free _ ?_ hz]
        · rfl
        · obtain ⟨k, hk1, hk2⟩ : ∃ k, k ≤ 4000 ∧ fresh hp d = (d + 1) * 4096 + k := by
            have : ∀ (n k : Nat), n + k ≤ 4000 → ∃ j, j ≤ 4000 ∧ dO hp d n k = (d + 1) * 4096 + j := by
              intro n
              induction n with
              | zero => intro k hk; exact ⟨k, by omega, rfl⟩
              | succ n ih =>
                intro k hk
                simp only [dO]
                split
                · exact ⟨k, by omega, rfl⟩
                · exact ih (k + 1) (by omega)
            exact this 4000 0 (by omega)
          rw [hk2]
          unfold jk
          omega
    have hem : (S.emit (S.inp.bd ⟨args, hp⟩) d hp' oy.1 oy.2).run = some out := by
      unfold aq.emit
      dsimp only
      rw [hfr, hend', hnmall, tT hg hold]
      exact h5
    have hbind : ∀ {α β : Type} (t : OT α) (f : α → OT β) (a : α) (b : β), t.run = some a → (f a).run = some b → (t.bind f).run = some b := by
      intro α β t f a b h1 h2
      induction t with
      | ok a' => cases h1; exact h2
      | br c u v hu hv =>
        cases c
        · exact hv h1
        · exact hu h1
      | fail => cases h1
    exact hbind (F x) _ oy out h3 hem
end
theorem aA {S : aq} {pre : S.T → Bool} {F : S.T → OT S.Y} : aJ (S.aK pre F) := fun _ _ _ _ _ hg h => ahX hg h
end Sx
end Go.Proofs.Ytkedomfjjahjnaa

namespace Go.Proofs.Ytkedomfjjahjnaa
namespace Sx
open Go
def OT.wpR {α : Type} (t : OT α) (K : α → Prop) : Prop :=
  OT.rec (motive := fun _ => Prop) (fun a => K a) (fun b _ _ x y => Bool.rec (motive := fun _ => Prop) y x b) False t
theorem OT.S4 {α : Type} (t : OT α) (K : α → Prop) : t.wpR K = t.wp K := by
  induction t with
  | ok b => rfl
  | br b x y hx hy =>
    cases b
    · exact hy
    · exact hx
  | fail => rfl
theorem OT.tQ {α : Type} {t : OT α} {a : α} {K : α → Prop} (h : t.run = some a) (hk : K a) : t.wp K := by
  induction t with
  | ok b => cases h; exact hk
  | br b x y hx hy =>
    cases b
    · exact hy h
    · exact hx h
  | fail => cases h
def ak (fn : Func) : Code := fn.body.getD .skip
abbrev aO := Sigma fun p : SE × Shape => p.2.T
def cU (sh : Shape) (xs : SE → Option Shape) (Q : Sum sh.T aO → Prop) (e : SE) (st : St) : Prop := match e with
  | .normal => sh.on st fun s => Q (.inl s)
  | e => match xs e with
    | none => False
    | some s => s.on st fun x => Q (.inr ⟨(e, s), x⟩)
def au {σ ε : Type} (T : σ → OT (Sum σ ε)) : Nat → σ → Option ε
  | 0, _ => none
  | n + 1, s => match (T s).run with
    | some (.inl s') => au T n s'
    | some (.inr e) => some e
    | none => none
def dv (sh : Shape) (id : Nat) (ok : sh.T → Bool) (f : sh.T → OT aO) (st : St) (K : SE → St → Prop) : Prop :=
  sh.on st fun s => cond (ok s) ((f s).wp fun e => K (aeq id e.1.1) (e.1.2.inj e.2)) False
section
variable {P : Program} {te : TE} {Φ : Env} (hte : kx P te) (hΦ : aV P Φ) (hany : bg P te Φ)
include hte hΦ hany
theorem ahH {R₀ : Ctx} {sh : Shape} (h0 : Small R₀ sh.fixed) {xs : SE → Option Shape} (hxs : ∀ e s, xs e = some s → Small R₀ s.fixed) (hpan : ∀ v, xs (.pan v) = none) {Λ : Lam} {body : Code} (hΛ : Ed P R₀ Λ body)
    {id n : Nat} {T : sh.T → OT (Sum sh.T aO)} (hT : ∀ s Q, wps te Φ Λ n body (sh.inj s) (cU sh xs Q) = (T s).wpR Q) :
    KL P R₀ (.block id (.loop body)) fun st K => sh.on st fun s => ∃ m e, au T m s = some e ∧ K (aeq id e.1.1) (e.1.2.inj e.2) := by
  intro R st a w K Q hx hst hl hK
  obtain ⟨s, R', ⟨m, e, hr, hk⟩, hx', hst'⟩ := Shape.IR h0 hx hst hl
  refine wp_block (zf ?_)
  clear hl hst hx
  induction m generalizing s R' a w with
  | zero => cases hr
  | succ m ih =>
    simp only [au] at hr
    cases ht : (T s).run with
    | none => rw [ht] at hr; cases hr
    | some o =>
      rw [ht] at hr
      have hw : wps te Φ Λ n body (sh.inj s) (cU sh xs (fun z => z = o)) := by
        rw [hT, OT.S4]; exact OT.tQ ht rfl
      refine CZ (KR (R₀ := R₀) hte hΦ hany hΛ hx' hst' hw ⟨?_, ?_, ?_, ?_⟩)
      · intro R1 st1 a1 w1 hx1 hst1 hk1
        obtain ⟨s', R2, g1, g4, g5⟩ := Shape.IR h0 hx1 hst1 (hk1 : sh.on st1 _)
        subst g1
        exact ih a1 w1 s' R2 hr g4 g5
      · intro R1 st1 a1 w1 hx1 hst1 hk1
        simp only [cU] at hk1
        split at hk1
        · exact hk1.elim
        · rename_i sh' he
          obtain ⟨x, R2, g1, g2, g3⟩ := Shape.IR (hxs _ sh' he) hx1 hst1 hk1
          subst g1
          cases hr
          exact hK.ret R2 _ a1 w1 g2 g3 hk
      · intro R1 st1 a1 w1 j hx1 hst1 hk1
        simp only [cU] at hk1
        split at hk1
        · exact hk1.elim
        · rename_i sh' he
          obtain ⟨x, R2, g1, g2, g3⟩ := Shape.IR (hxs _ sh' he) hx1 hst1 hk1
          subst g1
          cases hr
          simp only [aeq] at hk
          simp only [Exit.inBlock]
          by_cases e : j = id
          · subst e
            rw [Nat.beq_refl, cond_true] at hk
            simp only [if_true]
            exact hK.normal R2 _ a1 w1 g2 g3 hk
          · have hb : Nat.beq j id = false := by
              cases hq : Nat.beq j id
              · rfl
              · exact absurd (Nat.eq_of_beq_eq_true hq) e
            rw [hb, cond_false] at hk
            simp only [e, if_false]
            exact hK.exit R2 _ a1 w1 j g2 g3 hk
      · intro R1 st1 a1 w1 sv v hx1 hst1 hv hk1
        simp only [cU, hpan] at hk1
theorem bw {R₀ : Ctx} {sh : Shape} (h0 : Small R₀ sh.fixed) {xs : SE → Option Shape} (hxs : ∀ e s, xs e = some s → Small R₀ s.fixed) (hpan : ∀ v, xs (.pan v) = none) {Λ : Lam} {body : Code} (hΛ : Ed P R₀ Λ body)
    {id n : Nat} {T : sh.T → OT (Sum sh.T aO)} (hT : ∀ s Q, wps te Φ Λ n body (sh.inj s) (cU sh xs Q) = (T s).wpR Q) {ok : sh.T → Bool} {f : sh.T → OT aO}
    (hf : ∀ s, ok s = true → ∃ m e, au T m s = some e ∧ (f s).run = some e) : KL P R₀ (.block id (.loop body)) (dv sh id ok f) := by
  intro R st a w K Q hx hst hl hK
  refine ahH hte hΦ hany h0 hxs hpan hΛ hT (id := id) R st a w K Q hx hst ?_ hK
  unfold dv at hl
  unfold Shape.on at hl ⊢
  split at hl
  · rename_i s hs
    cases ho : ok s
    · rw [ho] at hl; exact hl.elim
    · rw [ho] at hl
      obtain ⟨m, e, h1, h2⟩ := hf s ho
      obtain ⟨e', h3, h4⟩ := OT.S3 hl
      rw [h2] at h3
      cases h3
      rw [hs]
      exact ⟨m, e, h1, h4⟩
  · exact hl.elim
def fnK (S : aq) (sel : SV → Option ay) (Q : S.Y → Prop) (v : SV) (hp : Hp) : Prop := match sel v with
  | some o => match (o.shape S.fixed).prj ⟨abl o.rs.length v, hp⟩ with
    | some y => Q ⟨o, y⟩
    | none => False
  | none => False
def am9 (S : aq) : List ay → (S.Y → Prop) → SV → Hp → Prop
  | [], _, _, _ => False
  | o :: r, Q, v, hp => match (o.shape S.fixed).prj ⟨abl o.rs.length v, hp⟩ with
    | some y => Q ⟨o, y⟩
    | none => am9 S r Q v hp
omit hte hΦ hany in
theorem Ns {S : aq} {Q : S.Y → Prop} {v : SV} {hp : Hp} : ∀ {outs : List ay}, am9 S outs Q v hp → ∃ o ∈ outs, ∃ y, (o.shape S.fixed).prj ⟨abl o.rs.length v, hp⟩ = some y ∧ Q ⟨o, y⟩
  | [], h => h.elim
  | o :: r, h => by
    simp only [am9] at h
    split at h
    · rename_i y hy
      exact ⟨o, List.mem_cons_self .., y, hy, h⟩
    · obtain ⟨o', h1, h2⟩ := Ns h
      exact ⟨o', List.mem_cons_of_mem _ h1, h2⟩
theorem aD {f : FuncId} {fn : Func} {c : Code} (hf : P.funcs[f]? = some fn) (hb : fn.body = some c) (hname : (fn.name == "runtime.NumGoroutine") = false) {S : aq} {k : Nat} (hk : S.chunks.all (fun c => Nat.blt c.1 k && !c.2.u4) = true) {Λ : Lam}
    (hΛ : ∀ R, Small R k → Ed P R Λ c) {n : Nat} {sel : SV → Option ay} (hsel : ∀ v o, sel v = some o → o.pan = false) {pre : S.T → Bool} {F T : S.T → OT S.Y}
    (h : ∀ x Q, wpf te Φ Λ n fn (S.inp.inj x).tm (S.inp.inj x).hp (fnK S sel Q) (fun _ _ => False) = (T x).wpR Q)
    (hF : ∀ x oy, pre x = true → (F x).run = some oy → (T x).run = some oy) : ab P f (S.aK pre F) := by
  refine amg hte hΦ hany hf hb hname hk hΛ (n := n) fun x oy hp hr => ⟨fnK S sel (fun z => z = oy), fun _ _ => False, ?_, fun v hp hq => ?_, fun _ _ hq => hq.elim⟩
  · rw [h, OT.S4]; exact OT.tQ (hF x oy hp hr) rfl
  · unfold fnK at hq
    split at hq
    · rename_i o ho
      split at hq
      · rename_i y hy
        subst hq
        exact ⟨hsel v o ho, hy⟩
      · exact hq.elim
    · exact hq.elim
theorem ahW {f : FuncId} {fn : Func} {c : Code} (hf : P.funcs[f]? = some fn) (hb : fn.body = some c) (hname : (fn.name == "runtime.NumGoroutine") = false) {S : aq} {k : Nat} (hk : S.chunks.all (fun c => Nat.blt c.1 k && !c.2.u4) = true) {Λ : Lam}
    (hΛ : ∀ R, Small R k → Ed P R Λ c) {n : Nat} {outs : List ay} (hsel : (outs.all fun o => !o.pan) = true) {pre : S.T → Bool} {F T : S.T → OT S.Y}
    (h : ∀ x Q, wpf te Φ Λ n fn (S.inp.inj x).tm (S.inp.inj x).hp (am9 S outs Q) (fun _ _ => False) = (T x).wpR Q)
    (hF : ∀ x oy, pre x = true → (F x).run = some oy → (T x).run = some oy) : ab P f (S.aK pre F) := by
  refine amg hte hΦ hany hf hb hname hk hΛ (n := n) fun x oy hp hr => ⟨am9 S outs (fun z => z = oy), fun _ _ => False, ?_, fun v hp hq => ?_, fun _ _ hq => hq.elim⟩
  · rw [h, OT.S4]; exact OT.tQ (hF x oy hp hr) rfl
  · obtain ⟨o, ho, y, hy, hQ⟩ := Ns hq
    subst hQ
    exact ⟨by have := List.all_eq_true.1 hsel o ho; simpa using this, hy⟩
end
end Sx
end Go.Proofs.Ytkedomfjjahjnaa

namespace Go.Proofs.Ytkedomfjjahjnaa
namespace Sx
open Go
def zeroCells : Ty → List Value
  | .bool => [.bool false]
  | .u64 => [fU 0]
  | .u8 => [vu8 0]
  | .int => [.int .i64 0]
  | .str => [.string ⟨#[]⟩]
  | .elem => [fU 0, fU 0, fU 0, fU 0]
  | .prod a b => zeroCells a ++ zeroCells b
  | .arr n t => (List.replicate n (zeroCells t)).flatten
  | .list _ => [.slice none 0 0]
theorem ct : ∀ t : Ty, (zeroCells t).length = t.size
  | .bool => rfl
  | .u64 => rfl
  | .u8 => rfl
  | .int => rfl
  | .str => rfl
  | .elem => rfl
  | .prod a b => by simp only [zeroCells, List.length_append, ct a, ct b, Ty.size]
  | .arr n t => by simp [zeroCells, ct t, Ty.size]
  | .list _ => rfl
theorem Dy {c : List Value} {m : Nat} (hc : c.length = m) : ∀ (n i : Nat), i < n → seg (List.replicate n c).flatten (i * m) m = c
  | 0, _, h => by omega
  | n + 1, 0, _ => by
    simp only [seg, List.replicate_succ, List.flatten_cons, Nat.zero_mul, List.drop_zero, List.take_append, hc, Nat.sub_self, List.take_zero, List.append_nil]
    rw [← hc, List.take_length]
  | n + 1, i + 1, h => by
    have ih := Dy hc n i (by omega)
    simp only [seg] at ih ⊢
    rw [List.replicate_succ, List.flatten_cons]
    have : (i + 1) * m = c.length + i * m := by rw [hc, Nat.add_mul]; omega
    rw [this, List.drop_append]
    simp only [Nat.add_sub_cancel_left]
    rw [List.drop_eq_nil_of_le (by omega), List.nil_append, ih]
theorem AO {F : Nat → Option Obj} : ∀ t : Ty, Rep F t t.d (zeroCells t)
  | .bool => rfl
  | .u64 => rfl
  | .u8 => rfl
  | .int => ⟨rfl, by decide⟩
  | .str => ⟨rfl, by simp [Ty.d]⟩
  | .elem => rfl
  | .prod a b => by
    refine ⟨by simp only [zeroCells, List.length_append, ct], ?_, ?_⟩
    · have : (zeroCells (.prod a b)).take a.size = zeroCells a := by
        simp only [zeroCells]
        rw [← ct a, List.take_left]
      rw [this]; exact AO a
    · have : (zeroCells (.prod a b)).drop a.size = zeroCells b := by
        simp only [zeroCells]
        rw [← ct a, List.drop_left]
      rw [this]; exact AO b
  | .arr n t => by
    refine ⟨ct _, by simp [Ty.d], fun i hi => ?_⟩
    have h1 : (Ty.d (.arr n t)).getD i t.d = t.d := by
      simp [Ty.d, List.getD_eq_getElem?_getD, List.getElem?_replicate, hi]
    rw [h1]
    simp only [zeroCells]
    rw [Dy (ct t) n i hi]
    exact AO t
  | .list t => ⟨by simp [Ty.d], none, 0, rfl, by simp [Ty.d], .inl rfl⟩
def aoB (P : Program) (T : TypeId) (d : TypeDesc) : TD → Bool
  | .struct fs => match d with
    | .struct fields => decide (fields.toList.map (fun f => (f.offset, f.type)) = fs) && fields.toList.all (fun f => !decide (f.name = "_")) && !P.stoodInHeld T &&
        (fields.toList.mapM (fun f => (P.info? f.type).map fun i => (f.offset, i.size))).isSome
    | _ => false
  | .array n e => match d with
    | .array n' e' => Nat.beq n n' && Nat.beq e e'
    | _ => false
  | .slice e => match d with
    | .slice e' => Nat.beq e e'
    | _ => false
  | .int k => match d with
    | .int k' => decide (k' = k)
    | _ => false
  | .bool => match d with
    | .bool => true
    | _ => false
  | .str => match d with
    | .string => true
    | _ => false
  | .ptr ms => match d with
    | .pointer _ => match P.info? T with
      | some i => ms.all fun nf => match i.methods.find? (fun q => q.name == nf.1) with
        | some m => m.path.toList.isEmpty && (match m.func with
          | some (f, b) => b && Nat.beq f nf.2
          | none => false)
        | none => false
      | none => false
    | _ => false
  | .iface => match d with
    | .interface _ => true
    | _ => false
  | .other => match d with
    | .struct _ => false
    | .array .. => false
    | _ => true
theorem al {P : Program} {T : TypeId} {ti : TI} (h1 : (P.info? T).isSome = true) (h4 : ((P.info? T).get h1).zero.isSome = true) (h10 : (P.underlying T).isSome = true)
    (hs : Nat.beq ((P.info? T).get h1).size ti.size = true) (hb : Nat.beq ((P.info? T).get h1).bytes ti.bytes = true)
    (hz : (((P.info? T).get h1).zero.get h4).cells.toList.map Cf = ti.zero) (hc : ((((P.info? T).get h1).zero.get h4).cells.toList.all Value.oneCell') = true)
    (hn : Nat.beq (((P.info? T).get h1).zero.get h4).cells.size ti.size = true) (h8 : Nat.ble ti.size 16777216 = true) (h9 : (ti.desc.agg || Nat.beq ti.size 1) = true)
    (hd : aoB P T ((P.underlying T).get h10) ti.desc = true)
    (ht : match ti.ty with
      | none => True
      | some t => Nat.beq t.size ti.size = true ∧ (((P.info? T).get h1).zero.get h4).cells.toList = zeroCells t ∧ (!ti.desc.agg || !P.eqGuardType P.depth T) = true) : bR P T ti := by
  have e1 : P.info? T = some ((P.info? T).get h1) := (Option.some_get h1).symm
  have e4 : ((P.info? T).get h1).zero = some (((P.info? T).get h1).zero.get h4) := (Option.some_get h4).symm
  refine ⟨⟨_, _, e1, Nat.eq_of_beq_eq_true hs, Nat.eq_of_beq_eq_true hb, e4, hz, Nat.eq_of_beq_eq_true hn, fun u hu => List.all_eq_true.1 hc u hu⟩, Nat.le_of_ble_eq_true h8, fun ha => ?_, ⟨_, (Option.some_get h10).symm, ?_⟩, fun t hty => ?_⟩
  · rw [ha, Bool.false_or] at h9
    exact Nat.eq_of_beq_eq_true h9
  · generalize (P.underlying T).get h10 = d at hd
    cases hdd : ti.desc <;> rw [hdd] at hd <;> simp only [aoB] at hd <;> (try dsimp only)
    case struct fs =>
      split at hd
      · rename_i fields
        simp only [Bool.and_eq_true, decide_eq_true_eq, List.all_eq_true, Bool.not_eq_true', decide_eq_false_iff_not] at hd
        exact ⟨fields, rfl, hd.1.1.1, hd.1.1.2, hd.1.2, hd.2⟩
      · cases hd
    case array n e =>
      split at hd
      · rw [Bool.and_eq_true] at hd
        rw [Nat.eq_of_beq_eq_true hd.1, Nat.eq_of_beq_eq_true hd.2]
      · cases hd
    case slice e =>
      split at hd
      · rw [Nat.eq_of_beq_eq_true hd]
      · cases hd
    case int k =>
      split at hd
      · rw [of_decide_eq_true hd]
      · cases hd
    case bool =>
      split at hd
      · rfl
      · cases hd
    case str =>
      split at hd
      · rfl
      · cases hd
    case ptr ms =>
      split at hd
      · refine ⟨⟨_, rfl⟩, ?_⟩
        split at hd
        · rename_i i hi
          intro nf hnf
          have hq := List.all_eq_true.1 hd nf hnf
          split at hq
          · rename_i m hm
            rw [Bool.and_eq_true] at hq
            refine ⟨i, m, hi, hm, ?_, ?_⟩
            · apply Array.ext'
              simpa using hq.1
            · have h2 := hq.2
              split at h2
              · rename_i f b hf
                rw [Bool.and_eq_true] at h2
                rw [hf, Nat.eq_of_beq_eq_true h2.2, h2.1]
              · cases h2
          · cases hq
        · cases hd
      · cases hd
    case iface =>
      split at hd
      · exact ⟨_, rfl⟩
      · cases hd
    case other =>
      cases d <;> first | trivial | (cases hd; done)
  · rw [hty] at ht
    obtain ⟨t1, t2, t3⟩ := ht
    refine ⟨Nat.eq_of_beq_eq_true t1, fun F z hz' => ?_, fun ha => ?_⟩
    · rw [e1] at hz'
      simp only [Option.bind_some] at hz'
      rw [e4] at hz'
      cases hz'
      rw [t2]
      exact AO t
    · rw [ha, Bool.not_true, Bool.false_or, Bool.not_eq_true'] at t3
      exact t3
def anF : TE := fun _ => none
def aB (T : TypeId) (ti : TI) (te : TE) : TE := fun x => cond (Nat.beq x T) (some ti) (te x)
theorem agl {P : Program} : kx P anF := fun _ _ h => by cases h
theorem af {P : Program} {T : TypeId} {ti : TI} {te : TE} (h : bR P T ti) (ht : kx P te) : kx P (aB T ti te) := fun x t hx => by
  unfold aB at hx
  cases hb : Nat.beq x T
  · rw [hb] at hx; exact ht x t hx
  · rw [hb] at hx
    cases hx
    rw [Nat.eq_of_beq_eq_true hb]
    exact h
def aet : Env := fun _ => none
def az (f : FuncId) (s : cI) (Φ : Env) : Env := fun x => cond (Nat.beq x f) (some s) (Φ x)
theorem aes {P : Program} : aV P aet := fun _ _ h => by cases h
theorem ag {P : Program} {f : FuncId} {s : cI} {Φ : Env} (h : ab P f s) (hΦ : aV P Φ) : aV P (az f s Φ) := fun x t hx => by
  unfold az at hx
  cases hb : Nat.beq x f
  · rw [hb] at hx; exact hΦ x t hx
  · rw [hb] at hx
    cases hx
    rw [Nat.eq_of_beq_eq_true hb]
    exact h
theorem RM : aw aet := fun _ _ h => by cases h
theorem ac {f : FuncId} {s : cI} {Φ : Env} (h : aJ s) (hΦ : aw Φ) : aw (az f s Φ) := fun x t hx => by
  unfold az at hx
  cases hb : Nat.beq x f
  · rw [hb] at hx; exact hΦ x t hx
  · rw [hb] at hx
    cases hx
    exact h
end Sx
end Go.Proofs.Ytkedomfjjahjnaa

namespace Go.Proofs.Ytkedomfjjahjnaa
namespace Sx
open Go
def ku (l : List (Nat × Shape)) (r : Option Shape) : SE → Option Shape
  | .exit n => (l.find? fun p => Nat.beq p.1 n).map (·.2)
  | .ret => r
  | _ => none
theorem aH {l : List (Nat × Shape)} {r : Option Shape} {k : Nat} {R : Ctx} (hl : (l.all fun p => Nat.beq p.2.fixed k) = true) (hr : (r.all fun s => Nat.beq s.fixed k) = true) (hR : Small R k) :
    ∀ e s, ku l r e = some s → Small R s.fixed := by
  intro e s h
  cases e with
  | exit n =>
    simp only [ku] at h
    cases hf : l.find? fun p => Nat.beq p.1 n with
    | none => rw [hf] at h; cases h
    | some p =>
      rw [hf] at h
      cases h
      rw [Nat.eq_of_beq_eq_true (List.all_eq_true.1 hl p (List.mem_of_find?_eq_some hf))]
      exact hR
  | ret =>
    simp only [ku] at h
    subst h
    have e : s.fixed = k := Nat.eq_of_beq_eq_true (by simpa using hr)
    rw [e]
    exact hR
  | normal => cases h
  | pan v => cases h
theorem aW {l : List (Nat × Shape)} {r : Option Shape} (v : SV) : ku l r (.pan v) = none := rfl
section
variable {σ ε : Type} {T : σ → OT (Sum σ ε)}
theorem aM {s s' : σ} {m : Nat} {e : ε} (h : (T s).run = some (.inl s')) (h2 : au T m s' = some e) : au T (m + 1) s = some e := by
  simp only [au, h]; exact h2
theorem aR {s : σ} {e : ε} (h : (T s).run = some (.inr e)) : au T 1 s = some e := by
  simp only [au, h]
theorem CY (st : Nat → σ) (n : Nat) {e : ε} (h : ∀ k, k < n → (T (st k)).run = some (.inl (st (k + 1)))) (hn : (T (st n)).run = some (.inr e)) : ∀ j k, k + j = n → au T (j + 1) (st k) = some e
  | 0, k, hk => by
    have : k = n := by omega
    subst this
    exact aR hn
  | j + 1, k, hk => aM (h k (by omega)) (CY st n h hn j (k + 1) (by omega))
theorem Re (st : Nat → σ) (n : Nat) {e : ε} (h : ∀ k, k < n → (T (st k)).run = some (.inl (st (k + 1)))) (hn : (T (st n)).run = some (.inr e)) (k : Nat) (hk : k ≤ n) : ∃ m, au T m (st k) = some e :=
  ⟨n - k + 1, CY st n h hn (n - k) k (by omega)⟩
def upto {β : Type} (f : Nat → β → β) (b : β) : Nat → β
  | 0 => b
  | k + 1 => f k (upto f b k)
theorem bF {β : Type} (mk : Nat → β → σ) (step : Nat → β → β) (fin : β → ε) (n : Nat) (b0 : β) (P : Nat → β → Prop) (h0 : P 0 b0)
    (hs : ∀ k b, k < n → P k b → (T (mk k b)).run = some (.inl (mk (k + 1) (step k b))) ∧ P (k + 1) (step k b))
    (he : ∀ b, P n b → (T (mk n b)).run = some (.inr (fin b))) : (∃ m, au T m (mk 0 b0) = some (fin (upto step b0 n))) ∧ P n (upto step b0 n) := by
  have hP : ∀ k, k ≤ n → P k (upto step b0 k) := by
    intro k
    induction k with
    | zero => exact fun _ => h0
    | succ k ih => exact fun hk => (hs k _ (by omega) (ih (by omega))).2
  refine ⟨?_, hP n (Nat.le_refl _)⟩
  exact Re (fun k => mk k (upto step b0 k)) n (fun k hk => (hs k _ hk (hP k (by omega))).1) (he _ (hP n (Nat.le_refl _))) 0 (Nat.zero_le _)
end
def tab {α : Type} (x : List α) (n : Nat) (d : α) : List α := (List.range n).map fun i => x.getD i d
def lay {α : Type} (x y : List α) (n : Nat) (d : α) : List α := (List.range n).foldl (fun a i => a.set i (y.getD i d)) x
theorem xW {α : Type} {x y : List α} {d : α} : ∀ n, (lay x y n d).length = x.length
  | 0 => rfl
  | n + 1 => by
    have := xW (x := x) (y := y) (d := d) n
    simp only [lay, List.range_succ, List.foldl_append, List.foldl_cons, List.foldl_nil, List.length_set] at this ⊢
    exact this
theorem adt {α : Type} {x y : List α} {d : α} : ∀ n i, n ≤ x.length → i < x.length → (lay x y n d)[i]? = if i < n then some (y.getD i d) else x[i]?
  | 0, i, _, _ => by simp [lay]
  | n + 1, i, h, hi => by
    have ih := adt (x := x) (y := y) (d := d) n i (by omega) hi
    have hl := xW (x := x) (y := y) (d := d) n
    simp only [lay] at ih hl
    simp only [lay, List.range_succ, List.foldl_append, List.foldl_cons, List.foldl_nil]
    by_cases e : n = i
    · subst e
      rw [List.getElem?_set_self (by omega), if_pos (by omega)]
    · rw [List.getElem?_set_ne e, ih]
      by_cases h1 : i < n
      · rw [if_pos h1, if_pos (by omega)]
      · rw [if_neg h1, if_neg (by omega)]
theorem adu {α : Type} {x y : List α} {n : Nat} {d : α} (hx : x.length = n) (hy : y.length = n) : lay x y n d = y := by
  apply List.ext_getElem?
  intro i
  by_cases hi : i < n
  · rw [adt n i (by omega) (by omega), if_pos hi, List.getD_eq_getElem?_getD, List.getElem?_eq_getElem (by omega)]
    rfl
  · rw [List.getElem?_eq_none (by rw [xW]; omega), List.getElem?_eq_none (by omega)]
theorem OT.jz {α : Type} {a : α} : (OT.ok a).run = some a := rfl
theorem OT.ao {α : Type} {b : Bool} {x y : OT α} (h : b = true) : (OT.br b x y).run = x.run := by rw [h]; rfl
theorem OT.ap {α : Type} {b : Bool} {x y : OT α} (h : b = false) : (OT.br b x y).run = y.run := by rw [h]; rfl
def gd {α : Type} : List Bool → OT α → OT α
  | [], x => x
  | b :: r, x => .br b (gd r x) .fail
theorem ai {α : Type} {x : OT α} : ∀ {bs : List Bool}, bs.all (fun b => b) = true → (gd bs x).run = x.run
  | [], _ => rfl
  | b :: r, h => by
    rw [List.all_cons, Bool.and_eq_true] at h
    exact (OT.ao h.1).trans (ai h.2)
theorem bC {n : Int} (h : -9223372036854775808 ≤ n ∧ n ≤ 9223372036854775807) : inR n = true := by simp [inR, h.1, h.2]
theorem bJ {k : Int} {n : Nat} (h : 0 ≤ k ∧ k < (n : Int)) : inB k n = true := by simp [inB, h.1, h.2]
theorem Y7 {l h : Int} {n : Nat} (hh : 0 ≤ l ∧ l ≤ h ∧ h ≤ (n : Int)) : fI l h n = true := by simp [fI, hh.1, hh.2.1, hh.2.2]
end Sx
end Go.Proofs.Ytkedomfjjahjnaa

namespace Go.Proofs.Ytkedomfjjahjnaa
namespace Sx
open Go Go.RowKit
def fu (w : World) : Ctx := ⟨fun b => w.heap[b]?, ⟨fun _ => none, w⟩, fun _ => none, ahh⟩
theorem ago (w : World) : di (fu w) w :=
  ⟨fun _ _ h => h, (fun _ _ h => by cases h), (fun c ch h => by cases h), (fun c c' ch ch' L L' h => by cases h), fun _ _ _ => rfl, ⟨rfl, rfl, rfl⟩⟩
theorem Po {w w' : World} {R' : Ctx} {u : List (Nat × Ch)} (h : eJ (fu w) R' w' u) : Below w.heap.size w w' := by
  have he := h.mem.env
  rw [h.ext.U] at he
  have hb : ∀ k, k < w.heap.size → w'.heap[k]? = w.heap[k]? := fun k hk => by
    have h1 : w.heap[k]? = some w.heap[k] := by simp [hk]
    rw [h.mem.F k _ (h.ext.F k _ h1), h1]
  refine ⟨he.1, he.2.2, he.2.1, ?_, hb⟩
  rcases Nat.lt_or_ge w'.heap.size w.heap.size with hl | hl
  · have := hb _ hl
    simp [hl] at this
  · exact hl
theorem adw {P : Program} {f : FuncId} {s : cI} (h : ab P f s) (hfn : ∃ fn, P.funcs[f]? = some fn ∧ (fn.name == "runtime.NumGoroutine") = false ∧ fn.body.isNone = false) {w : World} {args : List SV} {vs : List Value} {u : List (Nat × Ch)} (hr : SV.bO (fu w) args vs)
    (ht : (s.f 0 args ahh).run = some (.ret ⟨.bool true, u⟩)) : Calls P f vs.toArray w fun e w' => e = .returned (.bool true) ∧ Below w.heap.size w w' := by
  have hc : Calls P f vs.toArray w (Wg (fu w) (.ret ⟨.bool true, u⟩)) := by
    rcases h.calls (fu w) w 0 args vs _ (ago w) hr ht with ⟨_, _, _, _, hc⟩ | ⟨v, w', hv, _⟩
    · exact hc
    · exfalso
      obtain ⟨fn, f1, f2, f3⟩ := hfn
      have f2' : ¬ fn.name = "runtime.NumGoroutine" := by simpa using f2
      have f3' : ¬ fn.body = none := fun e => by rw [e] at f3; simp at f3
      simp [callFunc, f1, f2', f3'] at hv
  refine hc.mono fun e w' hp => ?_
  obtain ⟨v, R', rfl, ha, hv⟩ := hp
  simp only [SV.rel] at hv
  subst hv
  exact ⟨rfl, Po ha⟩
end Sx
end Go.Proofs.Ytkedomfjjahjnaa

namespace Go.Proofs.Ytkedomfjjahjnaa
namespace Sx
open Go Go.RowKit
def K6 (te : TE) (T : TypeId) (n : Nat) : Bool := match te T with
  | some ei => Nat.beq ei.size n
  | none => false
def xz (go : TypeId → Ty → Bool) (te : TE) : Nat → List (Nat × TypeId) → Ty → Bool
  | o, [(p, T)], y => Nat.beq o p && (K6 te T y.size && go T y)
  | o, (p, T) :: q :: r, .prod a b => Nat.beq o p && (K6 te T a.size && (go T a && xz go te (o + a.size) (q :: r) b))
  | _, _, _ => false
def uK (te : TE) : Nat → TypeId → Ty → Bool
  | 0, _, _ => false
  | n + 1, T, y => match te T with
    | none => false
    | some ti => match ti.desc, y with
      | .bool, .bool => true
      | .int .u64, .u64 => true
      | .int .u8, .u8 => true
      | .int .i64, .int => true
      | .str, .str => true
      | .array m e, .elem => (match te e with
        | some ei => (match ei.desc with | .int .u64 => true | _ => false) && Nat.beq ei.size 1
        | none => false) && (Nat.beq m 4 && Nat.beq ti.size 4)
      | .array m e, .arr k t => Nat.beq m k && (K6 te e t.size && (Nat.beq ti.size (k * t.size) && uK te n e t))
      | .slice e, .list t => (match te e with
        | some ei => Nat.beq ei.size t.size && (Nat.blt 0 ei.size && Nat.blt 0 ei.bytes)
        | none => false) && uK te n e t
      | .struct fs, y => Nat.beq ti.size y.size && xz (uK te n) te 0 fs y
      | _, _ => false
theorem xS {α β : Type} {f : α → Option β} : ∀ {l : List α} {ys : List β}, l.mapM f = some ys → ys.length = l.length ∧ ∀ (i : Nat) (h : i < l.length) (h' : i < ys.length), f l[i] = some ys[i]
  | [], ys, h => by
    simp only [List.mapM_nil, Option.pure_def, Option.some.injEq] at h
    subst h
    exact ⟨rfl, fun i hi => absurd hi (Nat.not_lt_zero _)⟩
  | x :: l, ys, h => by
    simp only [List.mapM_cons, Option.bind_eq_bind, Option.bind_eq_some_iff, Option.pure_def, Option.some.injEq] at h
    obtain ⟨y, h1, r, h2, rfl⟩ := h
    obtain ⟨h3, h4⟩ := xS h2
    refine ⟨by simp [h3], fun i hi hi' => ?_⟩
    cases i with
    | zero => exact h1
    | succ i => exact h4 i (by simpa using hi) (by simpa using hi')
theorem sV {α : Type} {d : α} {Q : Nat → α → Prop} : ∀ (n : Nat), (∀ i, i < n → ∃ x, Q i x) → ∃ l : List α, l.length = n ∧ ∀ i, i < n → Q i (l.getD i d)
  | 0, _ => ⟨[], rfl, fun i h => absurd h (Nat.not_lt_zero _)⟩
  | n + 1, h => by
    obtain ⟨l, h1, h2⟩ := sV n fun i hi => h i (by omega)
    obtain ⟨x, hx⟩ := h n (by omega)
    refine ⟨l ++ [x], by simp [h1], fun i hi => ?_⟩
    rcases Nat.lt_or_ge i n with hi' | hi'
    · have := h2 i hi'
      rwa [List.getD_eq_getElem?_getD, List.getElem?_append_left (by omega), ← List.getD_eq_getElem?_getD]
    · have : i = n := by omega
      subst this
      rw [List.getD_eq_getElem?_getD, List.getElem?_append_right (by omega), h1]
      simpa using hx
theorem J2 {w : World} {a : Addr} {n : Nat} {cs : List Value} (hn : 0 < n) (h : w.cells? 0 a n = some cs) :
    ∃ arr E fz, w.heap[a.block]? = some (.cells arr E fz) ∧ a.spot = none ∧ a.off + n ≤ arr.size ∧ cs = seg arr.toList a.off n := by
  unfold World.cells? at h
  rw [if_pos (Nat.zero_le _)] at h
  obtain ⟨h1, h2⟩ := xS h
  rw [List.length_range] at h1
  have hat : ∀ i (hi : i < n), w.cell? (a.add i) = some (cs[i]'(by omega)) := fun i hi => by
    have := h2 i (by simpa using hi) (by omega)
    simpa using this
  have h0 := hat 0 hn
  have e0 : a.add 0 = a := rfl
  rw [e0] at h0
  unfold World.cell? at h0
  split at h0
  · rename_i arr E fz hb
    split at h0
    · cases h0
    · rename_i hs
      have hs' : a.spot = none := by simpa using hs
      have hget : ∀ i (hi : i < n), arr[a.off + i]? = some (cs[i]'(by omega)) := fun i hi => by
        have := hat i hi
        unfold World.cell? Addr.add at this
        by_cases hi0 : i = 0
        · subst hi0
          simpa [hb, hs'] using this
        · rw [if_neg hi0] at this
          simpa [hb] using this
      have hle : a.off + n ≤ arr.size := by
        have := (Array.getElem?_eq_some_iff.1 (hget (n - 1) (by omega))).1
        omega
      refine ⟨arr, E, fz, hb, hs', hle, ?_⟩
      apply List.ext_getElem
      · rw [e8 (by simpa using hle)]; exact h1
      · intro i hi hi'
        obtain ⟨hlt, he⟩ := Array.getElem?_eq_some_iff.1 (hget i (by omega))
        simp only [seg, List.getElem_take, List.getElem_drop, Array.getElem_toList]
        exact he.symm
  · cases h0
section
variable {H : Type} {enc : TypeId × Value → H} {P : Program} {te : TE} (hte : kx P te) {w : World} {sp : Nat → Bool}
abbrev Jv (w : World) : Nat → Option Obj := fun b => w.heap[b]?
include hte
theorem ig {T : TypeId} {ti : TI} (h : te T = some ti) : P.cellsOf T = ti.size := by
  obtain ⟨i, z, h1, h2, _⟩ := (hte T ti h).am4
  unfold Program.cellsOf
  rw [h1]
  exact h2
theorem Hv {T : TypeId} {ti : TI} (h : te T = some ti) : P.bytesOf T = ti.bytes := by
  obtain ⟨i, z, h1, _, h2, _⟩ := (hte T ti h).am4
  unfold Program.bytesOf
  rw [h1]
  exact h2
omit hte in
theorem r7 {T : TypeId} {n : Nat} (h : K6 te T n = true) : ∃ ti, te T = some ti ∧ ti.size = n := by
  unfold K6 at h
  split at h
  · rename_i ei he
    exact ⟨ei, he, Nat.eq_of_beq_eq_true h⟩
  · cases h
omit hte in
theorem la {e : TypeId} : ∀ {l : List (DataW H)} {d : DataW H}, d ∈ l → ∀ n ∈ d.weights P e, n ∈ DataW.weightsAll P e l
  | x :: l, d, h, n, hn => by
    simp only [DataW.weightsAll, List.mem_append]
    rcases List.mem_cons.1 h with rfl | h
    · exact .inl hn
    · exact .inr (la h n hn)
theorem Ha {go : TypeId → Ty → Bool} {fuel : Nat} {cs : List Value}
    (hgo : ∀ T y c d ps, go T y = true → c.length = y.size → DataW.trod enc P w 0 sp true fuel T c = some (d, ps) → (∀ n ∈ d.weights P T, n ≤ reachBytes) → ∃ x, Rep (Jv w) y x c) :
    ∀ (fl : List Field) (o : Nat) (y : Ty) (xs : List (DataW H × List MemPlace)), xz go te o (fl.map fun f => (f.offset, f.type)) y = true → o + y.size = cs.length →
      fl.mapM (fun f => DataW.trod enc P w 0 sp true fuel f.type ((cs.drop f.offset).take (P.cellsOf f.type))) = some xs →
      (∀ n ∈ DataW.weightsEach P (fl.map (·.type)) (xs.map (·.1)), n ≤ reachBytes) → ∃ x, Rep (Jv w) y x (cs.drop o)
  | [], o, y, xs, h, _, _, _ => by simp [xz] at h
  | [f], o, y, xs, h, hl, hm, hw => by
    simp only [List.map_cons, List.map_nil, xz, Bool.and_eq_true] at h
    obtain ⟨h1, h2, h3⟩ := h
    have h1 := Nat.eq_of_beq_eq_true h1
    obtain ⟨ti, ht, hs⟩ := r7 h2
    simp only [List.mapM_cons, List.mapM_nil, Option.bind_eq_bind, Option.bind_eq_some_iff, Option.pure_def, Option.some.injEq] at hm
    obtain ⟨⟨d, ps⟩, e1, r, rfl, rfl⟩ := hm
    rw [ig hte ht, hs, ← h1] at e1
    have hlen : (cs.drop o).length = y.size := by simp; omega
    rw [List.take_of_length_le (by omega)] at e1
    exact hgo _ _ _ _ _ h3 hlen e1 fun n hn => hw n (by simp only [List.map_cons, List.map_nil, DataW.weightsEach, List.append_nil]; exact hn)
  | f :: g :: r, o, y, xs, h, hl, hm, hw => by
    cases y <;> simp only [List.map_cons, xz, Bool.and_eq_true] at h <;> try (cases h; done)
    rename_i a b
    obtain ⟨h1, h2, h3, h4⟩ := h
    have h1 := Nat.eq_of_beq_eq_true h1
    obtain ⟨ti, ht, hs⟩ := r7 h2
    rw [List.mapM_cons] at hm
    simp only [Option.bind_eq_bind, Option.bind_eq_some_iff, Option.pure_def, Option.some.injEq] at hm
    obtain ⟨⟨d, ps⟩, e1, q, e2, rfl⟩ := hm
    rw [ig hte ht, hs, ← h1] at e1
    simp only [Ty.size] at hl
    obtain ⟨x1, k1⟩ := hgo _ _ _ _ _ h3 (by simp; omega) e1 fun n hn => hw n (by simp only [List.map_cons, DataW.weightsEach, List.mem_append]; exact .inl hn)
    obtain ⟨x2, k2⟩ := Ha hgo (g :: r) (o + a.size) b q h4 (by omega) e2 fun n hn => hw n (by simp only [List.map_cons, DataW.weightsEach, List.mem_append] at hn ⊢; exact .inr hn)
    refine ⟨(x1, x2), ?_⟩
    simp only [Rep]
    refine ⟨by simp; omega, k1, ?_⟩
    rw [List.drop_drop]
    exact k2
theorem afp {go : TypeId → Ty → Bool} {fuel : Nat} {cs : List Value} {e : TypeId} {t : Ty} {ei : TI} (he : te e = some ei) (hs : ei.size = t.size)
    (hgo : ∀ c d ps, c.length = t.size → DataW.trod enc P w 0 sp true fuel e c = some (d, ps) → (∀ n ∈ d.weights P e, n ≤ reachBytes) → ∃ x, Rep (Jv w) t x c) {m : Nat} (hl : cs.length = m * t.size) {xs : List (DataW H × List MemPlace)}
    (hm : ((List.range m).mapM fun i => DataW.trod enc P w 0 sp true fuel e ((cs.drop (i * P.cellsOf e)).take (P.cellsOf e))) = some xs)
    (hw : ∀ n ∈ DataW.weightsAll P e (xs.map (·.1)), n ≤ reachBytes) : ∀ i, i < m → ∃ x, Rep (Jv w) t x (seg cs (i * t.size) t.size) := fun i hi => by
  obtain ⟨h1, h2⟩ := xS hm
  rw [List.length_range] at h1
  have := h2 i (by simpa using hi) (by omega)
  rw [List.getElem_range, ig hte he, hs] at this
  have hle : (i + 1) * t.size ≤ m * t.size := Nat.mul_le_mul_right _ hi
  rw [Nat.succ_mul] at hle
  refine hgo _ (xs[i]'(by omega)).1 (xs[i]'(by omega)).2 (e8 (by omega)) this fun n hn => hw n (la (List.mem_map.2 ⟨xs[i]'(by omega), List.getElem_mem _, rfl⟩) n hn)
omit hte in
theorem ajz {fuel : Nat} {e : TypeId} {c : Value} {d : DataW H} {ps : List MemPlace} (hu : P.underlying e = some (.int .u64)) (hr : DataW.trod enc P w 0 sp true fuel e [c] = some (d, ps)) : ∃ x : UInt64, c = fU x := by
  cases fuel with
  | zero => simp [DataW.trod] at hr
  | succ fuel =>
    simp only [DataW.trod, hu] at hr
    cases c <;> simp only at hr <;> try (cases hr; done)
    rename_i k' n
    split at hr
    · rename_i hk
      obtain ⟨rfl, hwf⟩ := hk
      have := bounds_u64 hwf
      refine ⟨UInt64.ofNat n.toNat, ?_⟩
      simp only [fU, UInt64.toNat_ofNat']
      congr 1
      omega
    · cases hr
theorem tU : ∀ (k fuel : Nat) (T : TypeId) (y : Ty) (cs : List Value) (d : DataW H) (ps : List MemPlace), uK te k T y = true → cs.length = y.size → DataW.trod enc P w 0 sp true fuel T cs = some (d, ps) →
    (∀ n ∈ d.weights P T, n ≤ reachBytes) → ∃ x, Rep (Jv w) y x cs
  | 0, _, _, _, _, _, _, h, _, _, _ => by simp [uK] at h
  | k + 1, 0, _, _, _, _, _, _, _, h, _ => by simp [DataW.trod] at h
  | k + 1, fuel + 1, T, y, cs, d, ps, h, hl, hr, hw => by
    simp only [uK] at h
    split at h
    · cases h
    · rename_i ti hT
      obtain ⟨ds, hu, hd⟩ := (hte T ti hT).desc
      have hcells := ig hte hT
      simp only [DataW.trod, hu] at hr
      split at h
      · -- bool
        rename_i he
        rw [he] at hd
        simp only at hd
        subst hd
        match cs, hl with
        | [c], hl1 =>
          cases c <;> simp only [Option.some.injEq] at hr <;> try (cases hr; done)
          exact ⟨_, rfl⟩
      · rename_i he
        rw [he] at hd
        simp only at hd
        subst hd
        match cs, hl with
        | [c], hl1 =>
          cases c <;> simp only at hr <;> try (cases hr; done)
          rename_i k' n
          split at hr
          · rename_i hk
            obtain ⟨rfl, hwf⟩ := hk
            have := bounds_u64 hwf
            refine ⟨UInt64.ofNat n.toNat, ?_⟩
            simp only [Rep, fU, UInt64.toNat_ofNat']
            congr 2
            omega
          · cases hr
      · rename_i he
        rw [he] at hd
        simp only at hd
        subst hd
        match cs, hl with
        | [c], hl1 =>
          cases c <;> simp only at hr <;> try (cases hr; done)
          rename_i k' n
          split at hr
          · rename_i hk
            obtain ⟨rfl, hwf⟩ := hk
            have := bounds_u8 hwf
            refine ⟨UInt8.ofNat n.toNat, ?_⟩
            simp only [Rep, vu8, UInt8.toNat_ofNat']
            congr 2
            omega
          · cases hr
      · rename_i he
        rw [he] at hd
        simp only at hd
        subst hd
        match cs, hl with
        | [c], hl1 =>
          cases c <;> simp only at hr <;> try (cases hr; done)
          rename_i k' n
          split at hr
          · rename_i hk
            obtain ⟨rfl, hwf⟩ := hk
            have := bounds_i64 hwf
            exact ⟨n, rfl, bC (by omega)⟩
          · cases hr
      · rename_i he
        rw [he] at hd
        simp only at hd
        subst hd
        match cs, hl with
        | [c], hl1 =>
          cases c <;> simp only at hr <;> try (cases hr; done)
          rename_i s
          split at hr
          · cases hr
            refine ⟨s.data.toList, ?_⟩
            have := hw s.data.toList.length (by simp [DataW.weights])
            unfold reachBytes at this
            simp only [Rep]
            exact ⟨trivial, by unfold cv; omega⟩
          · cases hr
      · -- four words
        rename_i m e he
        rw [he] at hd
        simp only at hd
        subst hd
        simp only [Bool.and_eq_true] at h
        obtain ⟨h1, h2, h3⟩ := h
        split at h1
        · rename_i ei hei
          rw [Bool.and_eq_true] at h1
          obtain ⟨h4, h5⟩ := h1
          split at h4
          · rename_i hed
            have h2 := Nat.eq_of_beq_eq_true h2
            have h5 := Nat.eq_of_beq_eq_true h5
            subst h2
            obtain ⟨de, hue, hde⟩ := (hte e ei hei).desc
            rw [hed] at hde
            simp only at hde
            subst hde
            have hl4 : cs.length = 4 := hl
            simp only at hr
            rw [if_pos (by rw [hcells]; rw [hl4]; exact (Nat.eq_of_beq_eq_true h3).symm)] at hr
            simp only [Option.map_eq_some_iff] at hr
            obtain ⟨xs, hm, hx⟩ := hr
            obtain ⟨m1, m2⟩ := xS hm
            rw [List.length_range] at m1
            match cs, hl4 with
            | [c0, c1, c2, c3], hl1 =>
              have key : ∀ i (hi : i < 4), ∃ x : UInt64, [c0, c1, c2, c3][i] = fU x := fun i hi => by
                have := m2 i (by simpa using hi) (by omega)
                rw [List.getElem_range, ig hte hei, h5, Nat.mul_one] at this
                have e2 : ([c0, c1, c2, c3].drop i).take 1 = [[c0, c1, c2, c3][i]] := by
                  rw [List.drop_eq_getElem_cons (by simpa using hi)]
                  rfl
                rw [e2] at this
                exact ajz hue this
              obtain ⟨x0, k0⟩ := key 0 (by omega)
              obtain ⟨x1, k1⟩ := key 1 (by omega)
              obtain ⟨x2, k2⟩ := key 2 (by omega)
              obtain ⟨x3, k3⟩ := key 3 (by omega)
              simp only [List.getElem_cons_zero, List.getElem_cons_succ] at k0 k1 k2 k3
              exact ⟨⟨x0, x1, x2, x3⟩, by simp only [Rep, k0, k1, k2, k3]⟩
          · cases h4
        · cases h1
      · -- an array
        rename_i m e k' t he
        rw [he] at hd
        simp only at hd
        subst hd
        simp only [Bool.and_eq_true] at h
        obtain ⟨h1, h2, h3, h4⟩ := h
        have h1 := Nat.eq_of_beq_eq_true h1
        subst h1
        obtain ⟨ei, hei, hs⟩ := r7 h2
        have hl' : cs.length = m * t.size := hl
        simp only at hr
        rw [if_pos (by rw [hcells, hl']; exact (Nat.eq_of_beq_eq_true h3).symm)] at hr
        simp only [Option.map_eq_some_iff] at hr
        obtain ⟨xs, hm, hx⟩ := hr
        cases hx
        have key := afp (go := fun _ _ => true) hte hei hs (fun c d ps h1 h2 h3 => tU k fuel e t c d ps h4 h1 h2 h3) hl' hm (fun n hn => hw n (by simp only [DataW.weights, hu]; exact hn))
        obtain ⟨l, l1, l2⟩ := sV (d := t.d) m key
        exact ⟨l, hl', l1, l2⟩
      · -- a slice
        rename_i e t he
        rw [he] at hd
        simp only at hd
        subst hd
        rw [Bool.and_eq_true] at h
        obtain ⟨h1, h4⟩ := h
        split at h1
        · rename_i ei hei
          simp only [Bool.and_eq_true] at h1
          obtain ⟨h1, h2, h3⟩ := h1
          have hs := Nat.eq_of_beq_eq_true h1
          have hpos := cL h2
          have hby := cL h3
          match cs, hl with
          | [c], hl1 =>
            cases c <;> try (exfalso; simp at hr; done)
            rename_i ad len cap
            cases ad with
            | none =>
              rcases len with _ | len
              · rcases cap with _ | cap
                · exact ⟨[], by simp only [Rep]; exact ⟨Nat.zero_le _, none, 0, rfl, Nat.le_refl _, .inl trivial⟩⟩
                · cases hr
              · cases hr
            | some a =>
              simp only at hr
              split at hr
              · rename_i hcond
                obtain ⟨_, hlc, _⟩ := hcond
                simp only [Option.bind_eq_some_iff, Option.map_eq_some_iff] at hr
                obtain ⟨elems, hm, rest, _, hx⟩ := hr
                cases hx
                obtain ⟨m1, m2⟩ := xS hm
                rw [List.length_range] at m1
                have hwt := hw ((elems.length + rest.length) * P.bytesOf e) (by simp [DataW.weights, hu])
                rw [Hv hte hei] at hwt
                have hlen : len ≤ cv := by
                  have : elems.length ≤ (elems.length + rest.length) * ei.bytes := Nat.le_trans (Nat.le_add_right _ _) (Nat.le_mul_of_pos_right _ hby)
                  unfold reachBytes at hwt
                  unfold cv
                  omega
                rcases Nat.eq_zero_or_pos len with h0 | h0
                · subst h0
                  exact ⟨[], by simp only [Rep]; exact ⟨Nat.zero_le _, _, _, rfl, Nat.zero_le _, .inl trivial⟩⟩
                · have key : ∀ i, i < len → ∃ c, w.cells? 0 (a.add (i * t.size)) t.size = some c ∧ ∃ x, Rep (Jv w) t x c := fun i hi => by
                    have := m2 i (by simpa using hi) (by omega)
                    rw [List.getElem_range, ig hte hei, hs] at this
                    obtain ⟨c, hc, hrr⟩ := Option.bind_eq_some_iff.1 this
                    refine ⟨c, hc, tU k fuel e t c (elems[i]'(by omega)).1 (elems[i]'(by omega)).2 h4 ?_ hrr fun n hn => hw n ?_⟩
                    · obtain ⟨arr, E, fz, _, _, hle, rfl⟩ := J2 (by omega) hc
                      exact e8 (by simpa using hle)
                    · simp only [DataW.weights, hu, List.mem_cons, List.mem_append]
                      exact .inr (.inl (la (List.mem_map.2 ⟨elems[i]'(by omega), List.getElem_mem _, rfl⟩) n hn))
                  obtain ⟨c0, hc0, _⟩ := key 0 h0
                  rw [Nat.zero_mul] at hc0
                  obtain ⟨arr, E, fz, hb, hsp, _, _⟩ := J2 (by omega) hc0
                  have hb' : w.heap[a.block]? = some (.cells arr E fz) := hb
                  have hsp' : a.spot = none := hsp
                  have at_i : ∀ i, i < len → a.off + i * t.size + t.size ≤ arr.size ∧ ∃ x, Rep (Jv w) t x (seg arr.toList (a.off + i * t.size) t.size) := fun i hi => by
                    obtain ⟨c, hc, x, hx⟩ := key i hi
                    obtain ⟨arr2, E2, fz2, hb2, _, hle, rfl⟩ := J2 (by omega) hc
                    have hblk : (a.add (i * t.size)).block = a.block := by unfold Addr.add; split <;> rfl
                    have hoff : (a.add (i * t.size)).off = a.off + i * t.size := by
                      unfold Addr.add
                      split
                      · rename_i h; rw [h]; rfl
                      · rfl
                    rw [hblk, hb'] at hb2
                    cases hb2
                    rw [hoff] at hle hx
                    exact ⟨hle, x, hx⟩
                  obtain ⟨l, l1, l2⟩ := sV (d := t.d) len fun i hi => (at_i i hi).2
                  refine ⟨l, ?_⟩
                  simp only [Rep]
                  refine ⟨by omega, some a, cap, by rw [l1], by omega, .inr ⟨a.block, a.off, arr, E, fz, ?_, hb', ?_, fun i hi => l2 i (by omega)⟩⟩
                  · obtain ⟨blk, off, spot⟩ := a
                    simp only at hsp'
                    rw [hsp']
                  · have := (at_i (len - 1) (by omega)).1
                    have e2 : (len - 1) * t.size + t.size = len * t.size := by
                      rw [← Nat.succ_mul]
                      congr 1
                      omega
                    rw [l1]
                    omega
              · cases hr
        · cases h1
      · -- a struct
        rename_i y _ _ fs he
        rw [he] at hd
        simp only at hd
        obtain ⟨fields, rfl, hf, _⟩ := hd
        rw [Bool.and_eq_true] at h
        have hsz := Nat.eq_of_beq_eq_true h.1
        simp only at hr
        rw [if_pos (by rw [hcells, hl]; exact hsz.symm)] at hr
        simp only [Option.map_eq_some_iff] at hr
        obtain ⟨xs, hm, hx⟩ := hr
        cases hx
        have h2 := h.2
        rw [← hf] at h2
        have := Ha hte (go := uK te k) (cs := cs) (fun T y c d ps a b c' d' => tU k fuel T y c d ps a b c' d') fields.toList 0 y xs h2 (by omega) hm (fun n hn => hw n (by simp only [DataW.weights, hu]; exact hn))
        simpa using this
      · cases h
end
end Sx
end Go.Proofs.Ytkedomfjjahjnaa

namespace Go.Proofs.Ytkedomfjjahjnaa
namespace Sx
open Go Go.RowKit Go.ChangeShapes Go.WideShapes Go.ChangeAt
def afq (te : TE) (k : Nat) : List TypeId → List (Bool × Ty) → Bool
  | [], [] => true
  | T :: ts, (b, y) :: r => (match te T with
    | some ti => (b == ti.desc.agg) && Nat.beq ti.size y.size
    | none => false) && (uK te k T y && afq te k ts r)
  | _, _ => false
section
variable {H : Type} {enc : TypeId × Value → H} {P : Program} {te : TE} (hte : kx P te) {w : World} {sp : Nat → Bool}
include hte
theorem ahe {k : Nat} {T : TypeId} {y : Ty} {ti : TI} {v : Value} {d : DataW H} {ps : List MemPlace} (hT : te T = some ti) (hs : ti.size = y.size) (hp : uK te k T y = true) {base : Nat} (hok : Value.okWide P w .any base T v)
    (h : DataW.Trod enc P w 0 sp true T v d ps) (hw : ∀ n ∈ d.weights P T, n ≤ reachBytes) : ∃ x : y.T, SV.rel (fu w) (inj ti.desc.agg y x) v := by
  obtain ⟨fuel, hf⟩ := h
  obtain ⟨ds, hu, hd⟩ := (hte T ti hT).desc
  cases hagg : ti.desc.agg
  · have hone : v.cells.toList = [v] ∧ v.oneCell' = true := by
      have hc : Cell.okWide P w .any base T v := by
        unfold Value.okWide at hok
        rw [hu] at hok
        cases ds <;> first | exact hok | skip
        all_goals (
          cases hk : ti.desc <;> rw [hk] at hd hagg <;> simp only [TD.agg] at hd hagg <;>
            first | (cases hagg; done) | (cases hd; done) | (obtain ⟨e, he⟩ := hd; cases he; done) | (obtain ⟨⟨e, he⟩, _⟩ := hd; cases he; done) | exact absurd hd id)
      unfold Cell.okWide Cell.ok at hc
      rw [hu] at hc
      cases v <;> first | exact ⟨rfl, rfl⟩ | (exfalso; cases ds <;> first | exact hc | (simp at hc; done))
    rw [hone.1] at hf
    have hsz : y.size = 1 := by rw [← hs]; exact (hte T ti hT).one hagg
    obtain ⟨x, hx⟩ := tU hte k fuel T y [v] d ps hp (by rw [hsz]; rfl) hf hw
    refine ⟨x, ?_⟩
    have hr := e9 (R := fu w) y x [v] hx
    simp only [inj, n7, Bool.false_eq_true, if_false]
    have hl := fV y x
    rw [hsz] at hl
    match hc : unpack y x, hl with
    | [u], _ =>
      rw [hc] at hr
      obtain ⟨v', e, h⟩ := cp hr
      cases e
      exact h
  · have hv : ∃ cs, v = .agg cs ∧ cs.size = P.cellsOf T := by
      unfold Value.okWide at hok
      rw [hu] at hok
      cases hk : ti.desc <;> rw [hk] at hd hagg <;> simp only [TD.agg] at hd hagg <;> try (cases hagg; done)
      · obtain ⟨fields, rfl, _⟩ := hd
        obtain ⟨cs, h1, h2, _⟩ := hok
        exact ⟨cs, h1, h2⟩
      · subst hd
        obtain ⟨cs, h1, h2, _⟩ := hok
        exact ⟨cs, h1, h2⟩
    obtain ⟨cs, rfl, hsz⟩ := hv
    obtain ⟨x, hx⟩ := tU hte k fuel T y cs.toList d ps hp (by rw [Array.length_toList, hsz, ig hte hT, hs]) hf hw
    exact ⟨x, uX (e9 (R := fu w) y x _ hx) (nB _ _ _ hx)⟩
theorem Mm {k base : Nat} : ∀ {ts : List TypeId} {kd : List (Bool × Ty)} {vs : List Value} {ds : List (DataW H)} {ps : List MemPlace}, afq te k ts kd = true →
    (∀ (j : Nat) t v, ts[j]? = some t → vs[j]? = some v → Value.okWide P w .any base t v) → DataW.TrodAll enc P w 0 sp true ts vs ds ps → (DataW.weightsEach P ts ds).all (· ≤ reachBytes) = true →
    ∃ x : ATy kd, SV.bO (fu w) (ahL kd x) vs
  | [], [], [], [], _, _, _, _, _ => ⟨(), by simp only [ahL, SV.bO]⟩
  | [], [], v :: vs, _, _, _, _, h, _ => by simp [DataW.TrodAll] at h
  | [], [], [], d :: ds, _, _, _, h, _ => by simp [DataW.TrodAll] at h
  | [], a :: kd, _, _, _, h, _, _, _ => by simp [afq] at h
  | T :: ts, [], _, _, _, h, _, _, _ => by simp [afq] at h
  | T :: ts, (b, y) :: kd, [], _, _, _, _, h, _ => by simp [DataW.TrodAll] at h
  | T :: ts, (b, y) :: kd, v :: vs, [], _, _, _, h, _ => by simp [DataW.TrodAll] at h
  | T :: ts, (b, y) :: kd, v :: vs, d :: ds, ps, h, hok, ht, hw => by
    obtain ⟨p, q, h1, h2, rfl⟩ := ht
    simp only [afq, Bool.and_eq_true] at h
    obtain ⟨hb, hp, hr⟩ := h
    split at hb
    · rename_i ti hT
      rw [Bool.and_eq_true] at hb
      have e1 : b = ti.desc.agg := by simpa using hb.1
      subst e1
      simp only [DataW.weightsEach, List.all_append, Bool.and_eq_true] at hw
      obtain ⟨x, hx⟩ := ahe hte hT (Nat.eq_of_beq_eq_true hb.2) hp (hok 0 T v rfl rfl) h1 fun n hn => by simpa using List.all_eq_true.1 hw.1 n hn
      obtain ⟨xs, hxs⟩ := Mm hr (fun j t u h1 h2 => hok (j + 1) t u h1 h2) h2 hw.2
      exact ⟨(x, xs), by simp only [ahL, SV.bO]; exact ⟨v, vs, rfl, hx, hxs⟩⟩
    · cases hb
end
theorem agm {S : aq} {pre : S.T → Bool} {F : S.T → OT S.Y} {args : List SV} {X : S.T} {out : Out} (hp : S.inp.prj ⟨args, ahh⟩ = some X) (hpre : pre X = true)
    (hr : ((F X).bind fun oy => S.emit (S.inp.bd ⟨args, ahh⟩) 0 ahh oy.1 oy.2).run = some out) : ((S.aK pre F).f 0 args ahh).run = some out := by
  simp only [aq.aK, hp, hpre]
  exact hr
theorem HG {H : Type} {enc : TypeId × Value → H} {P : Program} {w w' : World} (hl : laidOutB P = true) (hb : Below w.heap.size w w') : ∀ {ts : List TypeId} {vs : List Value} {ds : List (DataW H)} {ps : List MemPlace},
    ts.all (fun t => P.readableRec t && Nat.blt t P.types.size) = true → DataW.TrodAll enc P w 0 (fun _ => true) true ts vs ds ps → DataW.TrodAll enc P w' 0 (fun b => decide (b < w.heap.size)) true ts vs ds ps
  | [], [], [], _, _, h => h
  | [], v :: vs, _, _, _, h => by simp [DataW.TrodAll] at h
  | [], [], d :: ds, _, _, h => by simp [DataW.TrodAll] at h
  | T :: ts, [], _, _, _, h => by simp [DataW.TrodAll] at h
  | T :: ts, v :: vs, [], _, _, h => by simp [DataW.TrodAll] at h
  | T :: ts, v :: vs, d :: ds, ps, hr, h => by
    obtain ⟨p, q, h1, h2, rfl⟩ := h
    simp only [List.all_cons, Bool.and_eq_true] at hr
    have lt1 : ∀ x ∈ p, x.block < w.heap.size := by obtain ⟨m, hm⟩ := h1; exact DataW.trod_lt m _ _ _ hm
    exact ⟨p, q, Below.trod hl hr.1.1 (cL hr.1.2) h1 hb lt1, HG hl hb hr.2 h2, rfl⟩
end Sx
end Go.Proofs.Ytkedomfjjahjnaa

namespace Go.Proofs.Ytkedomfjjahjnaa
namespace Sx
open Go
theorem ai6 {P : Program} {f : FuncId} {S : aq} {k : Nat} (hk : S.chunks.all (fun c => Nat.blt c.1 k && !c.2.u4) = true) {pre : S.T → Bool} {F : S.T → OT S.Y}
    (h : ∀ (x : S.T) (oy : S.Y) (vs : List Value) (N : Ctx) (w : World), pre x = true → (F x).run = some oy → SV.bO N (S.inp.inj x).tm vs →
      ∃ v u, (callFunc f vs.toArray).run P w = .ok (.value u) w ∧ SV.rel N v u ∧ oy.1.is oy.2 false v (dH S.chunks x.2)) : ab P f (S.aK pre F) := by
  refine ⟨?_⟩
  intro R w d args vs out hm hr hrun
  simp only [aq.aK] at hrun
  split at hrun
  · cases hrun
  · rename_i x hx
    obtain ⟨hpre, h2⟩ := OT.aE hrun
    obtain ⟨oy, h3, h4⟩ := OT.run_bind h2
    unfold aq.emit at h4
    dsimp only at h4
    obtain ⟨hend, h5⟩ := OT.aE h4
    have hx' := hx
    unfold Shape.prj at hx'
    dsimp only at hx'
    cases hbo : S.inp.Fp ⟨args, R.hp⟩ (S.inp.bd ⟨args, R.hp⟩) && Nat.beq args.length S.inp.n
    · rw [hbo] at hx'; cases hx'
    · rw [hbo] at hx'
      rw [Bool.and_eq_true] at hbo
      obtain ⟨hx1, hx2⟩ := bB hx'
      have hlen : args.length = S.inp.n := Nat.eq_of_beq_eq_true hbo.2
      have hN := IZ (s := S.inp) (st := ⟨args, R.hp⟩) (F' := R.zB (S.inp.bd ⟨args, R.hp⟩) S.bH w) (U' := R.FC (S.inp.bd ⟨args, R.hp⟩) S.bH w) hbo.1 hx2 rfl hm (M3 hm) (Jr hm) adC (M0 hm) MZ ai0 hm.env
      have hargs : SV.bO (R.named (R.zB (S.inp.bd ⟨args, R.hp⟩) S.bH w) (R.FC (S.inp.bd ⟨args, R.hp⟩) S.bH w) (S.inp.bd ⟨args, R.hp⟩) (dH S.chunks x.2)) (S.inp.inj x).tm vs :=
        kJ (s := S.inp) (st := ⟨args, R.hp⟩) hbo.1 hx2 rfl hm (M3 hm) (Jr hm) hr hx1 (SV.wM (by rw [List.length_replicate, ← hlen]; exact SV.aP hr) fun i hi hi' => by simp [SV.rel])
      obtain ⟨v, u, hv, hru, his⟩ := h x oy vs _ w hpre h3 hargs
      obtain ⟨R', a1, a2⟩ := ad4 hm hx hk (Ctx.Ext.refl _) hN hru his hend
      rw [his.1] at h5
      cases h5
      exact .inr ⟨u, w, hv, u, R', rfl, a1, a2⟩
end Sx
end Go.Proofs.Ytkedomfjjahjnaa

namespace Go.Proofs.Ytkedomfjjahjnaa
namespace Sx
open Go
def Out.after (u : List (Nat × Ch)) : Out → Out
  | .ret e => .ret ⟨e.v, u ++ e.upd⟩
  | .pan v u' => .pan v (u ++ u')
theorem eJ.trans {R R1 R2 : Ctx} {w w' : World} {u u' : List (Nat × Ch)} (h : eJ R R1 w u) (h' : eJ R1 R2 w' u') : eJ R R2 w' (u ++ u') :=
  ⟨h.ext.trans h'.ext, by rw [h'.hp, h.hp, fM], h'.mem⟩
end Sx
end Go.Proofs.Ytkedomfjjahjnaa

namespace Go.Proofs.Ytkedomfjjahjnaa
open Sx Go
set_option maxRecDepth 100000
def aiI : TI := ⟨1, 8, .other, [.cm], none⟩
theorem anE : bR Try.prog 1 aiI := al (by kernel_rfl) (by kernel_rfl) (by kernel_rfl) (by kernel_rfl) (by kernel_rfl) (by kernel_rfl) (by kernel_rfl) (by kernel_rfl) (by kernel_rfl) (by kernel_rfl) (by kernel_rfl) trivial
def aiH : TI := ⟨1, 8, .int .i64, [.int 0], some .int⟩
theorem anD : bR Try.prog 2 aiH := al (by kernel_rfl) (by kernel_rfl) (by kernel_rfl) (by kernel_rfl) (by kernel_rfl) (by kernel_rfl) (by kernel_rfl) (by kernel_rfl) (by kernel_rfl) (by kernel_rfl) (by kernel_rfl) ⟨by kernel_rfl, by kernel_rfl, by kernel_rfl⟩
def aiG : TI := ⟨1, 8, .int .i64, [.int 0], some .int⟩
theorem anC : bR Try.prog 3 aiG := al (by kernel_rfl) (by kernel_rfl) (by kernel_rfl) (by kernel_rfl) (by kernel_rfl) (by kernel_rfl) (by kernel_rfl) (by kernel_rfl) (by kernel_rfl) (by kernel_rfl) (by kernel_rfl) ⟨by kernel_rfl, by kernel_rfl, by kernel_rfl⟩
def aiF : TI := ⟨1, 1, .bool, [.bool false], some .bool⟩
theorem anB : bR Try.prog 4 aiF := al (by kernel_rfl) (by kernel_rfl) (by kernel_rfl) (by kernel_rfl) (by kernel_rfl) (by kernel_rfl) (by kernel_rfl) (by kernel_rfl) (by kernel_rfl) (by kernel_rfl) (by kernel_rfl) ⟨by kernel_rfl, by kernel_rfl, by kernel_rfl⟩
def aiE : TI := ⟨1, 1, .int .u8, [.u8 0], some .u8⟩
theorem anA : bR Try.prog 5 aiE := al (by kernel_rfl) (by kernel_rfl) (by kernel_rfl) (by kernel_rfl) (by kernel_rfl) (by kernel_rfl) (by kernel_rfl) (by kernel_rfl) (by kernel_rfl) (by kernel_rfl) (by kernel_rfl) ⟨by kernel_rfl, by kernel_rfl, by kernel_rfl⟩
def aiD : TI := ⟨1, 1, .int .u8, [.u8 0], some .u8⟩
theorem anz : bR Try.prog 6 aiD := al (by kernel_rfl) (by kernel_rfl) (by kernel_rfl) (by kernel_rfl) (by kernel_rfl) (by kernel_rfl) (by kernel_rfl) (by kernel_rfl) (by kernel_rfl) (by kernel_rfl) (by kernel_rfl) ⟨by kernel_rfl, by kernel_rfl, by kernel_rfl⟩
def aiC : TI := ⟨4, 24, .struct [(0, 2), (1, 3), (2, 4), (3, 6)], [.int 0, .int 0, .bool false, .u8 0], some (.prod .int (.prod .int (.prod .bool .u8)))⟩
theorem anx : bR Try.prog 7 aiC := al (by kernel_rfl) (by kernel_rfl) (by kernel_rfl) (by kernel_rfl) (by kernel_rfl) (by kernel_rfl) (by kernel_rfl) (by kernel_rfl) (by kernel_rfl) (by kernel_rfl) (by kernel_rfl) ⟨by kernel_rfl, by kernel_rfl, by kernel_rfl⟩
def aiB : TI := ⟨4, 24, .struct [(0, 2), (1, 3), (2, 4), (3, 6)], [.int 0, .int 0, .bool false, .u8 0], some (.prod .int (.prod .int (.prod .bool .u8)))⟩
theorem anw : bR Try.prog 8 aiB := al (by kernel_rfl) (by kernel_rfl) (by kernel_rfl) (by kernel_rfl) (by kernel_rfl) (by kernel_rfl) (by kernel_rfl) (by kernel_rfl) (by kernel_rfl) (by kernel_rfl) (by kernel_rfl) ⟨by kernel_rfl, by kernel_rfl, by kernel_rfl⟩
def aiA : TI := ⟨1, 16, .str, [.str []], some .str⟩
theorem anv : bR Try.prog 9 aiA := al (by kernel_rfl) (by kernel_rfl) (by kernel_rfl) (by kernel_rfl) (by kernel_rfl) (by kernel_rfl) (by kernel_rfl) (by kernel_rfl) (by kernel_rfl) (by kernel_rfl) (by kernel_rfl) ⟨by kernel_rfl, by kernel_rfl, by kernel_rfl⟩
def aa7 : TI := ⟨1, 16, .str, [.str []], some .str⟩
theorem akU : bR Try.prog 10 aa7 := al (by kernel_rfl) (by kernel_rfl) (by kernel_rfl) (by kernel_rfl) (by kernel_rfl) (by kernel_rfl) (by kernel_rfl) (by kernel_rfl) (by kernel_rfl) (by kernel_rfl) (by kernel_rfl) ⟨by kernel_rfl, by kernel_rfl, by kernel_rfl⟩
def aa6 : TI := ⟨1, 16, .str, [.str []], some .str⟩
theorem akT : bR Try.prog 11 aa6 := al (by kernel_rfl) (by kernel_rfl) (by kernel_rfl) (by kernel_rfl) (by kernel_rfl) (by kernel_rfl) (by kernel_rfl) (by kernel_rfl) (by kernel_rfl) (by kernel_rfl) (by kernel_rfl) ⟨by kernel_rfl, by kernel_rfl, by kernel_rfl⟩
def aa5 : TI := ⟨1, 8, .int .u64, [.u64 0], some .u64⟩
theorem akS : bR Try.prog 12 aa5 := al (by kernel_rfl) (by kernel_rfl) (by kernel_rfl) (by kernel_rfl) (by kernel_rfl) (by kernel_rfl) (by kernel_rfl) (by kernel_rfl) (by kernel_rfl) (by kernel_rfl) (by kernel_rfl) ⟨by kernel_rfl, by kernel_rfl, by kernel_rfl⟩
def aa4 : TI := ⟨1, 8, .ptr [("Error", 128), ("RuntimeError", 129)], [.wz], none⟩
theorem akR : bR Try.prog 15 aa4 := al (by kernel_rfl) (by kernel_rfl) (by kernel_rfl) (by kernel_rfl) (by kernel_rfl) (by kernel_rfl) (by kernel_rfl) (by kernel_rfl) (by kernel_rfl) (by kernel_rfl) (by kernel_rfl) trivial
def aa3 : TI := ⟨1, 8, .ptr [("Error", 130), ("RuntimeError", 131)], [.wz], none⟩
theorem akQ : bR Try.prog 16 aa3 := al (by kernel_rfl) (by kernel_rfl) (by kernel_rfl) (by kernel_rfl) (by kernel_rfl) (by kernel_rfl) (by kernel_rfl) (by kernel_rfl) (by kernel_rfl) (by kernel_rfl) (by kernel_rfl) trivial
def aa2 : TI := ⟨1, 8, .ptr [("Align", 132)], [.wz], none⟩
theorem akP : bR Try.prog 17 aa2 := al (by kernel_rfl) (by kernel_rfl) (by kernel_rfl) (by kernel_rfl) (by kernel_rfl) (by kernel_rfl) (by kernel_rfl) (by kernel_rfl) (by kernel_rfl) (by kernel_rfl) (by kernel_rfl) trivial
def aa1 : TI := ⟨1, 16, .iface, [.fQ], none⟩
theorem akO : bR Try.prog 20 aa1 := al (by kernel_rfl) (by kernel_rfl) (by kernel_rfl) (by kernel_rfl) (by kernel_rfl) (by kernel_rfl) (by kernel_rfl) (by kernel_rfl) (by kernel_rfl) (by kernel_rfl) (by kernel_rfl) trivial
def aa0 : TI := ⟨1, 4, .int .i32, [.cm], none⟩
theorem akN : bR Try.prog 21 aa0 := al (by kernel_rfl) (by kernel_rfl) (by kernel_rfl) (by kernel_rfl) (by kernel_rfl) (by kernel_rfl) (by kernel_rfl) (by kernel_rfl) (by kernel_rfl) (by kernel_rfl) (by kernel_rfl) trivial
def aaZ : TI := ⟨1, 8, .int .u64, [.u64 0], some .u64⟩
theorem akM : bR Try.prog 22 aaZ := al (by kernel_rfl) (by kernel_rfl) (by kernel_rfl) (by kernel_rfl) (by kernel_rfl) (by kernel_rfl) (by kernel_rfl) (by kernel_rfl) (by kernel_rfl) (by kernel_rfl) (by kernel_rfl) ⟨by kernel_rfl, by kernel_rfl, by kernel_rfl⟩
def aaY : TI := ⟨4, 32, .array 4 22, [.u64 0, .u64 0, .u64 0, .u64 0], some .elem⟩
theorem akL : bR Try.prog 23 aaY := al (by kernel_rfl) (by kernel_rfl) (by kernel_rfl) (by kernel_rfl) (by kernel_rfl) (by kernel_rfl) (by kernel_rfl) (by kernel_rfl) (by kernel_rfl) (by kernel_rfl) (by kernel_rfl) ⟨by kernel_rfl, by kernel_rfl, by kernel_rfl⟩
def aaX : TI := ⟨4, 32, .array 4 22, [.u64 0, .u64 0, .u64 0, .u64 0], some .elem⟩
theorem akK : bR Try.prog 24 aaX := al (by kernel_rfl) (by kernel_rfl) (by kernel_rfl) (by kernel_rfl) (by kernel_rfl) (by kernel_rfl) (by kernel_rfl) (by kernel_rfl) (by kernel_rfl) (by kernel_rfl) (by kernel_rfl) ⟨by kernel_rfl, by kernel_rfl, by kernel_rfl⟩
def aaW : TI := ⟨9, 72, .struct [(0, 24), (4, 24), (8, 4)], [.u64 0, .u64 0, .u64 0, .u64 0, .u64 0, .u64 0, .u64 0, .u64 0, .bool false], some (.prod .elem (.prod .elem .bool))⟩
theorem akJ : bR Try.prog 25 aaW := al (by kernel_rfl) (by kernel_rfl) (by kernel_rfl) (by kernel_rfl) (by kernel_rfl) (by kernel_rfl) (by kernel_rfl) (by kernel_rfl) (by kernel_rfl) (by kernel_rfl) (by kernel_rfl) ⟨by kernel_rfl, by kernel_rfl, by kernel_rfl⟩
def aaV : TI := ⟨9, 72, .struct [(0, 24), (4, 24), (8, 4)], [.u64 0, .u64 0, .u64 0, .u64 0, .u64 0, .u64 0, .u64 0, .u64 0, .bool false], some (.prod .elem (.prod .elem .bool))⟩
theorem akI : bR Try.prog 26 aaV := al (by kernel_rfl) (by kernel_rfl) (by kernel_rfl) (by kernel_rfl) (by kernel_rfl) (by kernel_rfl) (by kernel_rfl) (by kernel_rfl) (by kernel_rfl) (by kernel_rfl) (by kernel_rfl) ⟨by kernel_rfl, by kernel_rfl, by kernel_rfl⟩
def aaU : TI := ⟨1, 8, .other, [.cm], none⟩
theorem akH : bR Try.prog 27 aaU := al (by kernel_rfl) (by kernel_rfl) (by kernel_rfl) (by kernel_rfl) (by kernel_rfl) (by kernel_rfl) (by kernel_rfl) (by kernel_rfl) (by kernel_rfl) (by kernel_rfl) (by kernel_rfl) trivial
def aaT : TI := ⟨1, 8, .other, [.cm], none⟩
theorem akG : bR Try.prog 28 aaT := al (by kernel_rfl) (by kernel_rfl) (by kernel_rfl) (by kernel_rfl) (by kernel_rfl) (by kernel_rfl) (by kernel_rfl) (by kernel_rfl) (by kernel_rfl) (by kernel_rfl) (by kernel_rfl) trivial
def aaS : TI := ⟨1, 8, .other, [.cm], none⟩
theorem akF : bR Try.prog 29 aaS := al (by kernel_rfl) (by kernel_rfl) (by kernel_rfl) (by kernel_rfl) (by kernel_rfl) (by kernel_rfl) (by kernel_rfl) (by kernel_rfl) (by kernel_rfl) (by kernel_rfl) (by kernel_rfl) trivial
def aaR : TI := ⟨1, 24, .slice 32, [.emp], some (.list (.prod .elem (.prod .elem (.prod .elem .bool))))⟩
theorem akE : bR Try.prog 30 aaR := al (by kernel_rfl) (by kernel_rfl) (by kernel_rfl) (by kernel_rfl) (by kernel_rfl) (by kernel_rfl) (by kernel_rfl) (by kernel_rfl) (by kernel_rfl) (by kernel_rfl) (by kernel_rfl) ⟨by kernel_rfl, by kernel_rfl, by kernel_rfl⟩
def aaQ : TI := ⟨13, 104, .struct [(0, 24), (4, 26)], [.u64 0, .u64 0, .u64 0, .u64 0, .u64 0, .u64 0, .u64 0, .u64 0, .u64 0, .u64 0, .u64 0, .u64 0, .bool false], some (.prod .elem (.prod .elem (.prod .elem .bool)))⟩
theorem akD : bR Try.prog 31 aaQ := al (by kernel_rfl) (by kernel_rfl) (by kernel_rfl) (by kernel_rfl) (by kernel_rfl) (by kernel_rfl) (by kernel_rfl) (by kernel_rfl) (by kernel_rfl) (by kernel_rfl) (by kernel_rfl) ⟨by kernel_rfl, by kernel_rfl, by kernel_rfl⟩
def aaP : TI := ⟨13, 104, .struct [(0, 24), (4, 26)], [.u64 0, .u64 0, .u64 0, .u64 0, .u64 0, .u64 0, .u64 0, .u64 0, .u64 0, .u64 0, .u64 0, .u64 0, .bool false], some (.prod .elem (.prod .elem (.prod .elem .bool)))⟩
theorem akC : bR Try.prog 32 aaP := al (by kernel_rfl) (by kernel_rfl) (by kernel_rfl) (by kernel_rfl) (by kernel_rfl) (by kernel_rfl) (by kernel_rfl) (by kernel_rfl) (by kernel_rfl) (by kernel_rfl) (by kernel_rfl) ⟨by kernel_rfl, by kernel_rfl, by kernel_rfl⟩
def aaO : TI := ⟨1, 8, .int .i64, [.int 0], some .int⟩
theorem akB : bR Try.prog 33 aaO := al (by kernel_rfl) (by kernel_rfl) (by kernel_rfl) (by kernel_rfl) (by kernel_rfl) (by kernel_rfl) (by kernel_rfl) (by kernel_rfl) (by kernel_rfl) (by kernel_rfl) (by kernel_rfl) ⟨by kernel_rfl, by kernel_rfl, by kernel_rfl⟩
def aaN : TI := ⟨1, 8, .other, [.cm], none⟩
theorem akA : bR Try.prog 35 aaN := al (by kernel_rfl) (by kernel_rfl) (by kernel_rfl) (by kernel_rfl) (by kernel_rfl) (by kernel_rfl) (by kernel_rfl) (by kernel_rfl) (by kernel_rfl) (by kernel_rfl) (by kernel_rfl) trivial
def aaM : TI := ⟨1, 8, .other, [.cm], none⟩
theorem akz : bR Try.prog 36 aaM := al (by kernel_rfl) (by kernel_rfl) (by kernel_rfl) (by kernel_rfl) (by kernel_rfl) (by kernel_rfl) (by kernel_rfl) (by kernel_rfl) (by kernel_rfl) (by kernel_rfl) (by kernel_rfl) trivial
def aaL : TI := ⟨1, 8, .other, [.cm], none⟩
theorem aky : bR Try.prog 37 aaL := al (by kernel_rfl) (by kernel_rfl) (by kernel_rfl) (by kernel_rfl) (by kernel_rfl) (by kernel_rfl) (by kernel_rfl) (by kernel_rfl) (by kernel_rfl) (by kernel_rfl) (by kernel_rfl) trivial
def aaK : TI := ⟨1, 8, .other, [.cm], none⟩
theorem akx : bR Try.prog 38 aaK := al (by kernel_rfl) (by kernel_rfl) (by kernel_rfl) (by kernel_rfl) (by kernel_rfl) (by kernel_rfl) (by kernel_rfl) (by kernel_rfl) (by kernel_rfl) (by kernel_rfl) (by kernel_rfl) trivial
def aaJ : TI := ⟨1, 8, .other, [.cm], none⟩
theorem akw : bR Try.prog 39 aaJ := al (by kernel_rfl) (by kernel_rfl) (by kernel_rfl) (by kernel_rfl) (by kernel_rfl) (by kernel_rfl) (by kernel_rfl) (by kernel_rfl) (by kernel_rfl) (by kernel_rfl) (by kernel_rfl) trivial
def aaI : TI := ⟨1, 8, .other, [.cm], none⟩
theorem akv : bR Try.prog 40 aaI := al (by kernel_rfl) (by kernel_rfl) (by kernel_rfl) (by kernel_rfl) (by kernel_rfl) (by kernel_rfl) (by kernel_rfl) (by kernel_rfl) (by kernel_rfl) (by kernel_rfl) (by kernel_rfl) trivial
def aaH : TI := ⟨1, 8, .other, [.cm], none⟩
theorem aku : bR Try.prog 41 aaH := al (by kernel_rfl) (by kernel_rfl) (by kernel_rfl) (by kernel_rfl) (by kernel_rfl) (by kernel_rfl) (by kernel_rfl) (by kernel_rfl) (by kernel_rfl) (by kernel_rfl) (by kernel_rfl) trivial
def aaG : TI := ⟨1, 8, .other, [.cm], none⟩
theorem akt : bR Try.prog 42 aaG := al (by kernel_rfl) (by kernel_rfl) (by kernel_rfl) (by kernel_rfl) (by kernel_rfl) (by kernel_rfl) (by kernel_rfl) (by kernel_rfl) (by kernel_rfl) (by kernel_rfl) (by kernel_rfl) trivial
def aaF : TI := ⟨1, 8, .other, [.cm], none⟩
theorem aks : bR Try.prog 43 aaF := al (by kernel_rfl) (by kernel_rfl) (by kernel_rfl) (by kernel_rfl) (by kernel_rfl) (by kernel_rfl) (by kernel_rfl) (by kernel_rfl) (by kernel_rfl) (by kernel_rfl) (by kernel_rfl) trivial
def aaE : TI := ⟨1, 8, .other, [.cm], none⟩
theorem akr : bR Try.prog 44 aaE := al (by kernel_rfl) (by kernel_rfl) (by kernel_rfl) (by kernel_rfl) (by kernel_rfl) (by kernel_rfl) (by kernel_rfl) (by kernel_rfl) (by kernel_rfl) (by kernel_rfl) (by kernel_rfl) trivial
def aaD : TI := ⟨1, 8, .other, [.cm], none⟩
theorem akq : bR Try.prog 45 aaD := al (by kernel_rfl) (by kernel_rfl) (by kernel_rfl) (by kernel_rfl) (by kernel_rfl) (by kernel_rfl) (by kernel_rfl) (by kernel_rfl) (by kernel_rfl) (by kernel_rfl) (by kernel_rfl) trivial
def aaC : TI := ⟨1, 8, .ptr [("Add", 29), ("Join", 42), ("Scale", 32), ("Terms", 30), ("Value", 33)], [.wz], none⟩
theorem akp : bR Try.prog 46 aaC := al (by kernel_rfl) (by kernel_rfl) (by kernel_rfl) (by kernel_rfl) (by kernel_rfl) (by kernel_rfl) (by kernel_rfl) (by kernel_rfl) (by kernel_rfl) (by kernel_rfl) (by kernel_rfl) trivial
def aaB : TI := ⟨1, 8, .other, [.cm], none⟩
theorem ako : bR Try.prog 48 aaB := al (by kernel_rfl) (by kernel_rfl) (by kernel_rfl) (by kernel_rfl) (by kernel_rfl) (by kernel_rfl) (by kernel_rfl) (by kernel_rfl) (by kernel_rfl) (by kernel_rfl) (by kernel_rfl) trivial
def aaA : TI := ⟨1, 8, .other, [.cm], none⟩
theorem akn : bR Try.prog 49 aaA := al (by kernel_rfl) (by kernel_rfl) (by kernel_rfl) (by kernel_rfl) (by kernel_rfl) (by kernel_rfl) (by kernel_rfl) (by kernel_rfl) (by kernel_rfl) (by kernel_rfl) (by kernel_rfl) trivial
def aaz : TI := ⟨1, 8, .other, [.cm], none⟩
theorem akm : bR Try.prog 50 aaz := al (by kernel_rfl) (by kernel_rfl) (by kernel_rfl) (by kernel_rfl) (by kernel_rfl) (by kernel_rfl) (by kernel_rfl) (by kernel_rfl) (by kernel_rfl) (by kernel_rfl) (by kernel_rfl) trivial
def aay : TI := ⟨1, 8, .other, [.cm], none⟩
theorem akl : bR Try.prog 51 aay := al (by kernel_rfl) (by kernel_rfl) (by kernel_rfl) (by kernel_rfl) (by kernel_rfl) (by kernel_rfl) (by kernel_rfl) (by kernel_rfl) (by kernel_rfl) (by kernel_rfl) (by kernel_rfl) trivial
def aax : TI := ⟨1, 8, .other, [.cm], none⟩
theorem akk : bR Try.prog 52 aax := al (by kernel_rfl) (by kernel_rfl) (by kernel_rfl) (by kernel_rfl) (by kernel_rfl) (by kernel_rfl) (by kernel_rfl) (by kernel_rfl) (by kernel_rfl) (by kernel_rfl) (by kernel_rfl) trivial
def aaw : TI := ⟨1, 8, .other, [.cm], none⟩
theorem akj : bR Try.prog 53 aaw := al (by kernel_rfl) (by kernel_rfl) (by kernel_rfl) (by kernel_rfl) (by kernel_rfl) (by kernel_rfl) (by kernel_rfl) (by kernel_rfl) (by kernel_rfl) (by kernel_rfl) (by kernel_rfl) trivial
def aav : TI := ⟨1, 24, .slice 5, [.emp], some (.list .u8)⟩
theorem aki : bR Try.prog 54 aav := al (by kernel_rfl) (by kernel_rfl) (by kernel_rfl) (by kernel_rfl) (by kernel_rfl) (by kernel_rfl) (by kernel_rfl) (by kernel_rfl) (by kernel_rfl) (by kernel_rfl) (by kernel_rfl) ⟨by kernel_rfl, by kernel_rfl, by kernel_rfl⟩
def aau : TI := ⟨1, 8, .other, [.cm], none⟩
theorem akh : bR Try.prog 55 aau := al (by kernel_rfl) (by kernel_rfl) (by kernel_rfl) (by kernel_rfl) (by kernel_rfl) (by kernel_rfl) (by kernel_rfl) (by kernel_rfl) (by kernel_rfl) (by kernel_rfl) (by kernel_rfl) trivial
def aat : TI := ⟨1, 8, .other, [.cm], none⟩
theorem akg : bR Try.prog 56 aat := al (by kernel_rfl) (by kernel_rfl) (by kernel_rfl) (by kernel_rfl) (by kernel_rfl) (by kernel_rfl) (by kernel_rfl) (by kernel_rfl) (by kernel_rfl) (by kernel_rfl) (by kernel_rfl) trivial
def aas : TI := ⟨1, 8, .other, [.cm], none⟩
theorem akf : bR Try.prog 57 aas := al (by kernel_rfl) (by kernel_rfl) (by kernel_rfl) (by kernel_rfl) (by kernel_rfl) (by kernel_rfl) (by kernel_rfl) (by kernel_rfl) (by kernel_rfl) (by kernel_rfl) (by kernel_rfl) trivial
def aar : TI := ⟨1, 8, .other, [.cm], none⟩
theorem ake : bR Try.prog 58 aar := al (by kernel_rfl) (by kernel_rfl) (by kernel_rfl) (by kernel_rfl) (by kernel_rfl) (by kernel_rfl) (by kernel_rfl) (by kernel_rfl) (by kernel_rfl) (by kernel_rfl) (by kernel_rfl) trivial
def aaq : TI := ⟨1, 8, .other, [.cm], none⟩
theorem akd : bR Try.prog 59 aaq := al (by kernel_rfl) (by kernel_rfl) (by kernel_rfl) (by kernel_rfl) (by kernel_rfl) (by kernel_rfl) (by kernel_rfl) (by kernel_rfl) (by kernel_rfl) (by kernel_rfl) (by kernel_rfl) trivial
def aap : TI := ⟨1, 8, .other, [.cm], none⟩
theorem akc : bR Try.prog 60 aap := al (by kernel_rfl) (by kernel_rfl) (by kernel_rfl) (by kernel_rfl) (by kernel_rfl) (by kernel_rfl) (by kernel_rfl) (by kernel_rfl) (by kernel_rfl) (by kernel_rfl) (by kernel_rfl) trivial
def aao : TI := ⟨1, 8, .other, [.cm], none⟩
theorem akb : bR Try.prog 61 aao := al (by kernel_rfl) (by kernel_rfl) (by kernel_rfl) (by kernel_rfl) (by kernel_rfl) (by kernel_rfl) (by kernel_rfl) (by kernel_rfl) (by kernel_rfl) (by kernel_rfl) (by kernel_rfl) trivial
def aan : TI := ⟨1, 8, .other, [.cm], none⟩
theorem aka : bR Try.prog 62 aan := al (by kernel_rfl) (by kernel_rfl) (by kernel_rfl) (by kernel_rfl) (by kernel_rfl) (by kernel_rfl) (by kernel_rfl) (by kernel_rfl) (by kernel_rfl) (by kernel_rfl) (by kernel_rfl) trivial
def Pn : TI := ⟨1, 24, .slice 65, [.emp], some (.list (.prod .int (.prod .elem (.prod .elem (.prod .elem .bool)))))⟩
theorem aj9 : bR Try.prog 63 Pn := al (by kernel_rfl) (by kernel_rfl) (by kernel_rfl) (by kernel_rfl) (by kernel_rfl) (by kernel_rfl) (by kernel_rfl) (by kernel_rfl) (by kernel_rfl) (by kernel_rfl) (by kernel_rfl) ⟨by kernel_rfl, by kernel_rfl, by kernel_rfl⟩
def aam : TI := ⟨14, 112, .struct [(0, 3), (1, 24), (5, 26)], [.int 0, .u64 0, .u64 0, .u64 0, .u64 0, .u64 0, .u64 0, .u64 0, .u64 0, .u64 0, .u64 0, .u64 0, .u64 0, .bool false], some (.prod .int (.prod .elem (.prod .elem (.prod .elem .bool))))⟩
theorem aj8 : bR Try.prog 64 aam := al (by kernel_rfl) (by kernel_rfl) (by kernel_rfl) (by kernel_rfl) (by kernel_rfl) (by kernel_rfl) (by kernel_rfl) (by kernel_rfl) (by kernel_rfl) (by kernel_rfl) (by kernel_rfl) ⟨by kernel_rfl, by kernel_rfl, by kernel_rfl⟩
def H3 : TI := ⟨14, 112, .struct [(0, 3), (1, 24), (5, 26)], [.int 0, .u64 0, .u64 0, .u64 0, .u64 0, .u64 0, .u64 0, .u64 0, .u64 0, .u64 0, .u64 0, .u64 0, .u64 0, .bool false], some (.prod .int (.prod .elem (.prod .elem (.prod .elem .bool))))⟩
theorem aj7 : bR Try.prog 65 H3 := al (by kernel_rfl) (by kernel_rfl) (by kernel_rfl) (by kernel_rfl) (by kernel_rfl) (by kernel_rfl) (by kernel_rfl) (by kernel_rfl) (by kernel_rfl) (by kernel_rfl) (by kernel_rfl) ⟨by kernel_rfl, by kernel_rfl, by kernel_rfl⟩
def aal : TI := ⟨1, 8, .other, [.cm], none⟩
theorem aj6 : bR Try.prog 66 aal := al (by kernel_rfl) (by kernel_rfl) (by kernel_rfl) (by kernel_rfl) (by kernel_rfl) (by kernel_rfl) (by kernel_rfl) (by kernel_rfl) (by kernel_rfl) (by kernel_rfl) (by kernel_rfl) trivial
def aak : TI := ⟨1, 8, .other, [.cm], none⟩
theorem aj5 : bR Try.prog 67 aak := al (by kernel_rfl) (by kernel_rfl) (by kernel_rfl) (by kernel_rfl) (by kernel_rfl) (by kernel_rfl) (by kernel_rfl) (by kernel_rfl) (by kernel_rfl) (by kernel_rfl) (by kernel_rfl) trivial
def aaj : TI := ⟨1, 8, .other, [.cm], none⟩
theorem aj4 : bR Try.prog 68 aaj := al (by kernel_rfl) (by kernel_rfl) (by kernel_rfl) (by kernel_rfl) (by kernel_rfl) (by kernel_rfl) (by kernel_rfl) (by kernel_rfl) (by kernel_rfl) (by kernel_rfl) (by kernel_rfl) trivial
def aai : TI := ⟨1, 8, .int .i64, [.int 0], some .int⟩
theorem aj3 : bR Try.prog 69 aai := al (by kernel_rfl) (by kernel_rfl) (by kernel_rfl) (by kernel_rfl) (by kernel_rfl) (by kernel_rfl) (by kernel_rfl) (by kernel_rfl) (by kernel_rfl) (by kernel_rfl) (by kernel_rfl) ⟨by kernel_rfl, by kernel_rfl, by kernel_rfl⟩
def aah : TI := ⟨12, 96, .struct [(0, 24), (4, 24), (8, 24)], List.replicate 12 (.u64 0), some (.prod .elem (.prod .elem .elem))⟩
theorem aj2 : bR Try.prog 70 aah := al (by kernel_rfl) (by kernel_rfl) (by kernel_rfl) (by kernel_rfl) (by kernel_rfl) (by kernel_rfl) (by kernel_rfl) (by kernel_rfl) (by kernel_rfl) (by kernel_rfl) (by kernel_rfl) ⟨by kernel_rfl, by kernel_rfl, by kernel_rfl⟩
def aag : TI := ⟨12, 96, .struct [(0, 24), (4, 24), (8, 24)], List.replicate 12 (.u64 0), some (.prod .elem (.prod .elem .elem))⟩
theorem aj1 : bR Try.prog 71 aag := al (by kernel_rfl) (by kernel_rfl) (by kernel_rfl) (by kernel_rfl) (by kernel_rfl) (by kernel_rfl) (by kernel_rfl) (by kernel_rfl) (by kernel_rfl) (by kernel_rfl) (by kernel_rfl) ⟨by kernel_rfl, by kernel_rfl, by kernel_rfl⟩
def aaf : TI := ⟨1, 8, .other, [.cm], none⟩
theorem aj0 : bR Try.prog 72 aaf := al (by kernel_rfl) (by kernel_rfl) (by kernel_rfl) (by kernel_rfl) (by kernel_rfl) (by kernel_rfl) (by kernel_rfl) (by kernel_rfl) (by kernel_rfl) (by kernel_rfl) (by kernel_rfl) trivial
def aae : TI := ⟨1, 8, .other, [.cm], none⟩
theorem ajZ : bR Try.prog 73 aae := al (by kernel_rfl) (by kernel_rfl) (by kernel_rfl) (by kernel_rfl) (by kernel_rfl) (by kernel_rfl) (by kernel_rfl) (by kernel_rfl) (by kernel_rfl) (by kernel_rfl) (by kernel_rfl) trivial
def aad : TI := ⟨1, 8, .other, [.cm], none⟩
theorem ajY : bR Try.prog 74 aad := al (by kernel_rfl) (by kernel_rfl) (by kernel_rfl) (by kernel_rfl) (by kernel_rfl) (by kernel_rfl) (by kernel_rfl) (by kernel_rfl) (by kernel_rfl) (by kernel_rfl) (by kernel_rfl) trivial
def aac : TI := ⟨1, 8, .other, [.cm], none⟩
theorem ajX : bR Try.prog 75 aac := al (by kernel_rfl) (by kernel_rfl) (by kernel_rfl) (by kernel_rfl) (by kernel_rfl) (by kernel_rfl) (by kernel_rfl) (by kernel_rfl) (by kernel_rfl) (by kernel_rfl) (by kernel_rfl) trivial
def aab : TI := ⟨1, 8, .other, [.cm], none⟩
theorem ajW : bR Try.prog 76 aab := al (by kernel_rfl) (by kernel_rfl) (by kernel_rfl) (by kernel_rfl) (by kernel_rfl) (by kernel_rfl) (by kernel_rfl) (by kernel_rfl) (by kernel_rfl) (by kernel_rfl) (by kernel_rfl) trivial
def aaa : TI := ⟨1, 8, .other, [.cm], none⟩
theorem ajV : bR Try.prog 77 aaa := al (by kernel_rfl) (by kernel_rfl) (by kernel_rfl) (by kernel_rfl) (by kernel_rfl) (by kernel_rfl) (by kernel_rfl) (by kernel_rfl) (by kernel_rfl) (by kernel_rfl) (by kernel_rfl) trivial
def Z9 : TI := ⟨1, 8, .int .u64, [.u64 0], some .u64⟩
theorem ajU : bR Try.prog 78 Z9 := al (by kernel_rfl) (by kernel_rfl) (by kernel_rfl) (by kernel_rfl) (by kernel_rfl) (by kernel_rfl) (by kernel_rfl) (by kernel_rfl) (by kernel_rfl) (by kernel_rfl) (by kernel_rfl) ⟨by kernel_rfl, by kernel_rfl, by kernel_rfl⟩
def Z8 : TI := ⟨1, 8, .other, [.cm], none⟩
theorem ajT : bR Try.prog 80 Z8 := al (by kernel_rfl) (by kernel_rfl) (by kernel_rfl) (by kernel_rfl) (by kernel_rfl) (by kernel_rfl) (by kernel_rfl) (by kernel_rfl) (by kernel_rfl) (by kernel_rfl) (by kernel_rfl) trivial
def Z7 : TI := ⟨1, 8, .other, [.cm], none⟩
theorem ajS : bR Try.prog 82 Z7 := al (by kernel_rfl) (by kernel_rfl) (by kernel_rfl) (by kernel_rfl) (by kernel_rfl) (by kernel_rfl) (by kernel_rfl) (by kernel_rfl) (by kernel_rfl) (by kernel_rfl) (by kernel_rfl) trivial
def Z6 : TI := ⟨1, 8, .other, [.cm], none⟩
theorem ajR : bR Try.prog 83 Z6 := al (by kernel_rfl) (by kernel_rfl) (by kernel_rfl) (by kernel_rfl) (by kernel_rfl) (by kernel_rfl) (by kernel_rfl) (by kernel_rfl) (by kernel_rfl) (by kernel_rfl) (by kernel_rfl) trivial
def Z5 : TI := ⟨2, 32, .struct [(0, 3), (1, 30)], [.int 0, .emp], some (.prod .int (.list (.prod .elem (.prod .elem (.prod .elem .bool)))))⟩
theorem ajQ : bR Try.prog 84 Z5 := al (by kernel_rfl) (by kernel_rfl) (by kernel_rfl) (by kernel_rfl) (by kernel_rfl) (by kernel_rfl) (by kernel_rfl) (by kernel_rfl) (by kernel_rfl) (by kernel_rfl) (by kernel_rfl) ⟨by kernel_rfl, by kernel_rfl, by kernel_rfl⟩
def Z4 : TI := ⟨2, 32, .struct [(0, 3), (1, 30)], [.int 0, .emp], some (.prod .int (.list (.prod .elem (.prod .elem (.prod .elem .bool)))))⟩
theorem ajP : bR Try.prog 85 Z4 := al (by kernel_rfl) (by kernel_rfl) (by kernel_rfl) (by kernel_rfl) (by kernel_rfl) (by kernel_rfl) (by kernel_rfl) (by kernel_rfl) (by kernel_rfl) (by kernel_rfl) (by kernel_rfl) ⟨by kernel_rfl, by kernel_rfl, by kernel_rfl⟩
def Z3 : TI := ⟨1, 8, .other, [.cm], none⟩
theorem ajO : bR Try.prog 86 Z3 := al (by kernel_rfl) (by kernel_rfl) (by kernel_rfl) (by kernel_rfl) (by kernel_rfl) (by kernel_rfl) (by kernel_rfl) (by kernel_rfl) (by kernel_rfl) (by kernel_rfl) (by kernel_rfl) trivial
def Z0 : TI := ⟨1, 8, .other, [.cm], none⟩
theorem ajN : bR Try.prog 87 Z0 := al (by kernel_rfl) (by kernel_rfl) (by kernel_rfl) (by kernel_rfl) (by kernel_rfl) (by kernel_rfl) (by kernel_rfl) (by kernel_rfl) (by kernel_rfl) (by kernel_rfl) (by kernel_rfl) trivial
def ZZ : TI := ⟨1, 8, .other, [.cm], none⟩
theorem ajM : bR Try.prog 88 ZZ := al (by kernel_rfl) (by kernel_rfl) (by kernel_rfl) (by kernel_rfl) (by kernel_rfl) (by kernel_rfl) (by kernel_rfl) (by kernel_rfl) (by kernel_rfl) (by kernel_rfl) (by kernel_rfl) trivial
def ZY : TI := ⟨1, 8, .other, [.cm], none⟩
theorem ajL : bR Try.prog 89 ZY := al (by kernel_rfl) (by kernel_rfl) (by kernel_rfl) (by kernel_rfl) (by kernel_rfl) (by kernel_rfl) (by kernel_rfl) (by kernel_rfl) (by kernel_rfl) (by kernel_rfl) (by kernel_rfl) trivial
def ZX : TI := ⟨1, 8, .other, [.cm], none⟩
theorem ajK : bR Try.prog 90 ZX := al (by kernel_rfl) (by kernel_rfl) (by kernel_rfl) (by kernel_rfl) (by kernel_rfl) (by kernel_rfl) (by kernel_rfl) (by kernel_rfl) (by kernel_rfl) (by kernel_rfl) (by kernel_rfl) trivial
def ZW : TI := ⟨1, 8, .other, [.cm], none⟩
theorem ajJ : bR Try.prog 91 ZW := al (by kernel_rfl) (by kernel_rfl) (by kernel_rfl) (by kernel_rfl) (by kernel_rfl) (by kernel_rfl) (by kernel_rfl) (by kernel_rfl) (by kernel_rfl) (by kernel_rfl) (by kernel_rfl) trivial
def ZV : TI := ⟨11, 88, .struct [(0, 24), (4, 3), (5, 22), (6, 22), (7, 24)], [.u64 0, .u64 0, .u64 0, .u64 0, .int 0, .u64 0, .u64 0, .u64 0, .u64 0, .u64 0, .u64 0], some (.prod .elem (.prod .int (.prod .u64 (.prod .u64 .elem))))⟩
theorem ajI : bR Try.prog 92 ZV := al (by kernel_rfl) (by kernel_rfl) (by kernel_rfl) (by kernel_rfl) (by kernel_rfl) (by kernel_rfl) (by kernel_rfl) (by kernel_rfl) (by kernel_rfl) (by kernel_rfl) (by kernel_rfl) ⟨by kernel_rfl, by kernel_rfl, by kernel_rfl⟩
def ZU : TI := ⟨11, 88, .struct [(0, 24), (4, 3), (5, 22), (6, 22), (7, 24)], [.u64 0, .u64 0, .u64 0, .u64 0, .int 0, .u64 0, .u64 0, .u64 0, .u64 0, .u64 0, .u64 0], some (.prod .elem (.prod .int (.prod .u64 (.prod .u64 .elem))))⟩
theorem ajH : bR Try.prog 93 ZU := al (by kernel_rfl) (by kernel_rfl) (by kernel_rfl) (by kernel_rfl) (by kernel_rfl) (by kernel_rfl) (by kernel_rfl) (by kernel_rfl) (by kernel_rfl) (by kernel_rfl) (by kernel_rfl) ⟨by kernel_rfl, by kernel_rfl, by kernel_rfl⟩
def ZT : TI := ⟨1, 8, .other, [.cm], none⟩
theorem ajG : bR Try.prog 95 ZT := al (by kernel_rfl) (by kernel_rfl) (by kernel_rfl) (by kernel_rfl) (by kernel_rfl) (by kernel_rfl) (by kernel_rfl) (by kernel_rfl) (by kernel_rfl) (by kernel_rfl) (by kernel_rfl) trivial
def ZS : TI := ⟨1, 8, .other, [.cm], none⟩
theorem ajF : bR Try.prog 96 ZS := al (by kernel_rfl) (by kernel_rfl) (by kernel_rfl) (by kernel_rfl) (by kernel_rfl) (by kernel_rfl) (by kernel_rfl) (by kernel_rfl) (by kernel_rfl) (by kernel_rfl) (by kernel_rfl) trivial
def ZR : TI := ⟨1, 8, .other, [.cm], none⟩
theorem ajE : bR Try.prog 97 ZR := al (by kernel_rfl) (by kernel_rfl) (by kernel_rfl) (by kernel_rfl) (by kernel_rfl) (by kernel_rfl) (by kernel_rfl) (by kernel_rfl) (by kernel_rfl) (by kernel_rfl) (by kernel_rfl) trivial
def ZQ : TI := ⟨1, 8, .other, [.cm], none⟩
theorem ajD : bR Try.prog 98 ZQ := al (by kernel_rfl) (by kernel_rfl) (by kernel_rfl) (by kernel_rfl) (by kernel_rfl) (by kernel_rfl) (by kernel_rfl) (by kernel_rfl) (by kernel_rfl) (by kernel_rfl) (by kernel_rfl) trivial
def ZP : TI := ⟨1, 8, .other, [.cm], none⟩
theorem ajC : bR Try.prog 99 ZP := al (by kernel_rfl) (by kernel_rfl) (by kernel_rfl) (by kernel_rfl) (by kernel_rfl) (by kernel_rfl) (by kernel_rfl) (by kernel_rfl) (by kernel_rfl) (by kernel_rfl) (by kernel_rfl) trivial
def TP : TI := ⟨1, 8, .other, [.cm], none⟩
theorem agk : bR Try.prog 100 TP := al (by kernel_rfl) (by kernel_rfl) (by kernel_rfl) (by kernel_rfl) (by kernel_rfl) (by kernel_rfl) (by kernel_rfl) (by kernel_rfl) (by kernel_rfl) (by kernel_rfl) (by kernel_rfl) trivial
def TO : TI := ⟨1, 8, .other, [.cm], none⟩
theorem agj : bR Try.prog 101 TO := al (by kernel_rfl) (by kernel_rfl) (by kernel_rfl) (by kernel_rfl) (by kernel_rfl) (by kernel_rfl) (by kernel_rfl) (by kernel_rfl) (by kernel_rfl) (by kernel_rfl) (by kernel_rfl) trivial
def TN : TI := ⟨1, 8, .other, [.cm], none⟩
theorem agi : bR Try.prog 102 TN := al (by kernel_rfl) (by kernel_rfl) (by kernel_rfl) (by kernel_rfl) (by kernel_rfl) (by kernel_rfl) (by kernel_rfl) (by kernel_rfl) (by kernel_rfl) (by kernel_rfl) (by kernel_rfl) trivial
def TM : TI := ⟨1, 8, .other, [.cm], none⟩
theorem agh : bR Try.prog 103 TM := al (by kernel_rfl) (by kernel_rfl) (by kernel_rfl) (by kernel_rfl) (by kernel_rfl) (by kernel_rfl) (by kernel_rfl) (by kernel_rfl) (by kernel_rfl) (by kernel_rfl) (by kernel_rfl) trivial
def TL : TI := ⟨1, 8, .other, [.cm], none⟩
theorem agf : bR Try.prog 105 TL := al (by kernel_rfl) (by kernel_rfl) (by kernel_rfl) (by kernel_rfl) (by kernel_rfl) (by kernel_rfl) (by kernel_rfl) (by kernel_rfl) (by kernel_rfl) (by kernel_rfl) (by kernel_rfl) trivial
def TK : TI := ⟨1, 8, .other, [.cm], none⟩
theorem age : bR Try.prog 107 TK := al (by kernel_rfl) (by kernel_rfl) (by kernel_rfl) (by kernel_rfl) (by kernel_rfl) (by kernel_rfl) (by kernel_rfl) (by kernel_rfl) (by kernel_rfl) (by kernel_rfl) (by kernel_rfl) trivial
def TJ : TI := ⟨1, 8, .other, [.cm], none⟩
theorem agd : bR Try.prog 108 TJ := al (by kernel_rfl) (by kernel_rfl) (by kernel_rfl) (by kernel_rfl) (by kernel_rfl) (by kernel_rfl) (by kernel_rfl) (by kernel_rfl) (by kernel_rfl) (by kernel_rfl) (by kernel_rfl) trivial
def TH : TI := ⟨1, 8, .other, [.cm], none⟩
theorem agc : bR Try.prog 109 TH := al (by kernel_rfl) (by kernel_rfl) (by kernel_rfl) (by kernel_rfl) (by kernel_rfl) (by kernel_rfl) (by kernel_rfl) (by kernel_rfl) (by kernel_rfl) (by kernel_rfl) (by kernel_rfl) trivial
def TG : TI := ⟨135, 1080, .array 15 26, (([.u64 0, .u64 0, .u64 0, .u64 0, .u64 0, .u64 0, .u64 0, .u64 0, .bool false, .u64 0, .u64 0, .u64 0, .u64 0, .u64 0, .u64 0, .u64 0, .u64 0, .bool false, .u64 0, .u64 0, .u64 0, .u64 0, .u64 0, .u64 0, .u64 0, .u64 0, .bool false, .u64 0, .u64 0, .u64 0, .u64 0, .u64 0, .u64 0, .u64 0, .u64 0, .bool false, .u64 0, .u64 0, .u64 0, .u64 0, .u64 0, .u64 0, .u64 0, .u64 0, .bool false, .u64 0, .u64 0, .u64 0, .u64 0, .u64 0] : List SV) ++ ([.u64 0, .u64 0, .u64 0, .bool false, .u64 0, .u64 0, .u64 0, .u64 0, .u64 0, .u64 0, .u64 0, .u64 0, .bool false, .u64 0, .u64 0, .u64 0, .u64 0, .u64 0, .u64 0, .u64 0, .u64 0, .bool false, .u64 0, .u64 0, .u64 0, .u64 0, .u64 0, .u64 0, .u64 0, .u64 0, .bool false, .u64 0, .u64 0, .u64 0, .u64 0, .u64 0, .u64 0, .u64 0, .u64 0, .bool false, .u64 0, .u64 0, .u64 0, .u64 0, .u64 0, .u64 0, .u64 0, .u64 0, .bool false, .u64 0] : List SV) ++ ([.u64 0, .u64 0, .u64 0, .u64 0, .u64 0, .u64 0, .u64 0, .bool false, .u64 0, .u64 0, .u64 0, .u64 0, .u64 0, .u64 0, .u64 0, .u64 0, .bool false, .u64 0, .u64 0, .u64 0, .u64 0, .u64 0, .u64 0, .u64 0, .u64 0, .bool false, .u64 0, .u64 0, .u64 0, .u64 0, .u64 0, .u64 0, .u64 0, .u64 0, .bool false] : List SV)), some (.arr 15 (.prod .elem (.prod .elem .bool)))⟩
theorem agb : bR Try.prog 110 TG := al (by kernel_rfl) (by kernel_rfl) (by kernel_rfl) (by kernel_rfl) (by kernel_rfl) (by kernel_rfl) (by kernel_rfl) (by kernel_rfl) (by kernel_rfl) (by kernel_rfl) (by kernel_rfl) ⟨by kernel_rfl, by kernel_rfl, by kernel_rfl⟩
def TF : TI := ⟨4, 32, .array 4 3, [.int 0, .int 0, .int 0, .int 0], some (.arr 4 .int)⟩
theorem aga : bR Try.prog 111 TF := al (by kernel_rfl) (by kernel_rfl) (by kernel_rfl) (by kernel_rfl) (by kernel_rfl) (by kernel_rfl) (by kernel_rfl) (by kernel_rfl) (by kernel_rfl) (by kernel_rfl) (by kernel_rfl) ⟨by kernel_rfl, by kernel_rfl, by kernel_rfl⟩
def TC : TI := ⟨6, 48, .array 6 22, [.u64 0, .u64 0, .u64 0, .u64 0, .u64 0, .u64 0], some (.arr 6 .u64)⟩
theorem af9 : bR Try.prog 112 TC := al (by kernel_rfl) (by kernel_rfl) (by kernel_rfl) (by kernel_rfl) (by kernel_rfl) (by kernel_rfl) (by kernel_rfl) (by kernel_rfl) (by kernel_rfl) (by kernel_rfl) (by kernel_rfl) ⟨by kernel_rfl, by kernel_rfl, by kernel_rfl⟩
def TB : TI := ⟨1, 8, .other, [.cm], none⟩
theorem af8 : bR Try.prog 113 TB := al (by kernel_rfl) (by kernel_rfl) (by kernel_rfl) (by kernel_rfl) (by kernel_rfl) (by kernel_rfl) (by kernel_rfl) (by kernel_rfl) (by kernel_rfl) (by kernel_rfl) (by kernel_rfl) trivial
def TA : TI := ⟨1, 24, .slice 22, [.emp], some (.list .u64)⟩
theorem af7 : bR Try.prog 114 TA := al (by kernel_rfl) (by kernel_rfl) (by kernel_rfl) (by kernel_rfl) (by kernel_rfl) (by kernel_rfl) (by kernel_rfl) (by kernel_rfl) (by kernel_rfl) (by kernel_rfl) (by kernel_rfl) ⟨by kernel_rfl, by kernel_rfl, by kernel_rfl⟩
def Tz : TI := ⟨1, 8, .other, [.cm], none⟩
theorem af6 : bR Try.prog 115 Tz := al (by kernel_rfl) (by kernel_rfl) (by kernel_rfl) (by kernel_rfl) (by kernel_rfl) (by kernel_rfl) (by kernel_rfl) (by kernel_rfl) (by kernel_rfl) (by kernel_rfl) (by kernel_rfl) trivial
def Tx : TI := ⟨1, 16, .iface, [.fQ], none⟩
theorem af5 : bR Try.prog 116 Tx := al (by kernel_rfl) (by kernel_rfl) (by kernel_rfl) (by kernel_rfl) (by kernel_rfl) (by kernel_rfl) (by kernel_rfl) (by kernel_rfl) (by kernel_rfl) (by kernel_rfl) (by kernel_rfl) trivial
def Tw : TI := ⟨1, 16, .iface, [.fQ], none⟩
theorem af4 : bR Try.prog 117 Tw := al (by kernel_rfl) (by kernel_rfl) (by kernel_rfl) (by kernel_rfl) (by kernel_rfl) (by kernel_rfl) (by kernel_rfl) (by kernel_rfl) (by kernel_rfl) (by kernel_rfl) (by kernel_rfl) trivial
def Tv : TI := ⟨1, 8, .other, [.cm], none⟩
theorem af3 : bR Try.prog 118 Tv := al (by kernel_rfl) (by kernel_rfl) (by kernel_rfl) (by kernel_rfl) (by kernel_rfl) (by kernel_rfl) (by kernel_rfl) (by kernel_rfl) (by kernel_rfl) (by kernel_rfl) (by kernel_rfl) trivial
def Tu : TI := ⟨1, 8, .other, [.cm], none⟩
theorem af2 : bR Try.prog 119 Tu := al (by kernel_rfl) (by kernel_rfl) (by kernel_rfl) (by kernel_rfl) (by kernel_rfl) (by kernel_rfl) (by kernel_rfl) (by kernel_rfl) (by kernel_rfl) (by kernel_rfl) (by kernel_rfl) trivial
def Tt : TI := ⟨1, 8, .ptr [("Error", 136)], [.wz], none⟩
theorem af1 : bR Try.prog 120 Tt := al (by kernel_rfl) (by kernel_rfl) (by kernel_rfl) (by kernel_rfl) (by kernel_rfl) (by kernel_rfl) (by kernel_rfl) (by kernel_rfl) (by kernel_rfl) (by kernel_rfl) (by kernel_rfl) trivial
def Tq : TI := ⟨1, 8, .other, [.cm], none⟩
theorem af0 : bR Try.prog 121 Tq := al (by kernel_rfl) (by kernel_rfl) (by kernel_rfl) (by kernel_rfl) (by kernel_rfl) (by kernel_rfl) (by kernel_rfl) (by kernel_rfl) (by kernel_rfl) (by kernel_rfl) (by kernel_rfl) trivial
def Tp : TI := ⟨0, 0, .array 0 16, [], none⟩
theorem afZ : bR Try.prog 124 Tp := al (by kernel_rfl) (by kernel_rfl) (by kernel_rfl) (by kernel_rfl) (by kernel_rfl) (by kernel_rfl) (by kernel_rfl) (by kernel_rfl) (by kernel_rfl) (by kernel_rfl) (by kernel_rfl) trivial
def To : TI := ⟨1, 8, .other, [.cm], none⟩
theorem afY : bR Try.prog 127 To := al (by kernel_rfl) (by kernel_rfl) (by kernel_rfl) (by kernel_rfl) (by kernel_rfl) (by kernel_rfl) (by kernel_rfl) (by kernel_rfl) (by kernel_rfl) (by kernel_rfl) (by kernel_rfl) trivial
def Tn : TI := ⟨1, 4, .int .u32, [.cm], none⟩
theorem afX : bR Try.prog 128 Tn := al (by kernel_rfl) (by kernel_rfl) (by kernel_rfl) (by kernel_rfl) (by kernel_rfl) (by kernel_rfl) (by kernel_rfl) (by kernel_rfl) (by kernel_rfl) (by kernel_rfl) (by kernel_rfl) trivial
def Tl : TI := ⟨1, 1, .int .u8, [.u8 0], some .u8⟩
theorem afW : bR Try.prog 129 Tl := al (by kernel_rfl) (by kernel_rfl) (by kernel_rfl) (by kernel_rfl) (by kernel_rfl) (by kernel_rfl) (by kernel_rfl) (by kernel_rfl) (by kernel_rfl) (by kernel_rfl) (by kernel_rfl) ⟨by kernel_rfl, by kernel_rfl, by kernel_rfl⟩
def Tk : TI := ⟨1, 1, .int .u8, [.u8 0], some .u8⟩
theorem afV : bR Try.prog 130 Tk := al (by kernel_rfl) (by kernel_rfl) (by kernel_rfl) (by kernel_rfl) (by kernel_rfl) (by kernel_rfl) (by kernel_rfl) (by kernel_rfl) (by kernel_rfl) (by kernel_rfl) (by kernel_rfl) ⟨by kernel_rfl, by kernel_rfl, by kernel_rfl⟩
def Tj : TI := ⟨1, 8, .other, [.cm], none⟩
theorem afU : bR Try.prog 131 Tj := al (by kernel_rfl) (by kernel_rfl) (by kernel_rfl) (by kernel_rfl) (by kernel_rfl) (by kernel_rfl) (by kernel_rfl) (by kernel_rfl) (by kernel_rfl) (by kernel_rfl) (by kernel_rfl) trivial
def Ti : TI := ⟨1, 8, .ptr [], [.wz], none⟩
theorem afT : bR Try.prog 132 Ti := al (by kernel_rfl) (by kernel_rfl) (by kernel_rfl) (by kernel_rfl) (by kernel_rfl) (by kernel_rfl) (by kernel_rfl) (by kernel_rfl) (by kernel_rfl) (by kernel_rfl) (by kernel_rfl) trivial
def Th : TI := ⟨1, 4, .int .i32, [.cm], none⟩
theorem afS : bR Try.prog 133 Th := al (by kernel_rfl) (by kernel_rfl) (by kernel_rfl) (by kernel_rfl) (by kernel_rfl) (by kernel_rfl) (by kernel_rfl) (by kernel_rfl) (by kernel_rfl) (by kernel_rfl) (by kernel_rfl) trivial
def Tg : TI := ⟨1, 4, .int .i32, [.cm], none⟩
theorem afR : bR Try.prog 134 Tg := al (by kernel_rfl) (by kernel_rfl) (by kernel_rfl) (by kernel_rfl) (by kernel_rfl) (by kernel_rfl) (by kernel_rfl) (by kernel_rfl) (by kernel_rfl) (by kernel_rfl) (by kernel_rfl) trivial
def Tf : TI := ⟨1, 16, .struct [(0, 9)], [.str []], some .str⟩
theorem afQ : bR Try.prog 137 Tf := al (by kernel_rfl) (by kernel_rfl) (by kernel_rfl) (by kernel_rfl) (by kernel_rfl) (by kernel_rfl) (by kernel_rfl) (by kernel_rfl) (by kernel_rfl) (by kernel_rfl) (by kernel_rfl) ⟨by kernel_rfl, by kernel_rfl, by kernel_rfl⟩
def Te : TI := ⟨1, 16, .struct [(0, 9)], [.str []], some .str⟩
theorem afP : bR Try.prog 138 Te := al (by kernel_rfl) (by kernel_rfl) (by kernel_rfl) (by kernel_rfl) (by kernel_rfl) (by kernel_rfl) (by kernel_rfl) (by kernel_rfl) (by kernel_rfl) (by kernel_rfl) (by kernel_rfl) ⟨by kernel_rfl, by kernel_rfl, by kernel_rfl⟩
def Td : TI := ⟨1, 8, .other, [.wz], none⟩
theorem afO : bR Try.prog 139 Td := al (by kernel_rfl) (by kernel_rfl) (by kernel_rfl) (by kernel_rfl) (by kernel_rfl) (by kernel_rfl) (by kernel_rfl) (by kernel_rfl) (by kernel_rfl) (by kernel_rfl) (by kernel_rfl) trivial
def te : TE := (aB 1 aiI (aB 2 aiH (aB 3 aiG (aB 4 aiF (aB 5 aiE (aB 6 aiD (aB 7 aiC (aB 8 aiB (aB 9 aiA (aB 10 aa7 (aB 11 aa6 (aB 12 aa5 (aB 15 aa4 (aB 16 aa3 (aB 17 aa2 (aB 20 aa1 (aB 21 aa0 (aB 22 aaZ (aB 23 aaY (aB 24 aaX (aB 25 aaW (aB 26 aaV (aB 27 aaU (aB 28 aaT (aB 29 aaS (aB 30 aaR (aB 31 aaQ (aB 32 aaP (aB 33 aaO (aB 35 aaN (aB 36 aaM (aB 37 aaL (aB 38 aaK (aB 39 aaJ (aB 40 aaI (aB 41 aaH (aB 42 aaG (aB 43 aaF (aB 44 aaE (aB 45 aaD (aB 46 aaC (aB 48 aaB (aB 49 aaA (aB 50 aaz (aB 51 aay (aB 52 aax (aB 53 aaw (aB 54 aav (aB 55 aau (aB 56 aat (aB 57 aas (aB 58 aar (aB 59 aaq (aB 60 aap (aB 61 aao (aB 62 aan (aB 63 Pn (aB 64 aam (aB 65 H3 (aB 66 aal (aB 67 aak (aB 68 aaj (aB 69 aai (aB 70 aah (aB 71 aag (aB 72 aaf (aB 73 aae (aB 74 aad (aB 75 aac (aB 76 aab (aB 77 aaa (aB 78 Z9 (aB 80 Z8 (aB 82 Z7 (aB 83 Z6 (aB 84 Z5 (aB 85 Z4 (aB 86 Z3 (aB 87 Z0 (aB 88 ZZ (aB 89 ZY (aB 90 ZX (aB 91 ZW (aB 92 ZV (aB 93 ZU (aB 95 ZT (aB 96 ZS (aB 97 ZR (aB 98 ZQ (aB 99 ZP (aB 100 TP (aB 101 TO (aB 102 TN (aB 103 TM (aB 105 TL (aB 107 TK (aB 108 TJ (aB 109 TH (aB 110 TG (aB 111 TF (aB 112 TC (aB 113 TB (aB 114 TA (aB 115 Tz (aB 116 Tx (aB 117 Tw (aB 118 Tv (aB 119 Tu (aB 120 Tt (aB 121 Tq (aB 124 Tp (aB 127 To (aB 128 Tn (aB 129 Tl (aB 130 Tk (aB 131 Tj (aB 132 Ti (aB 133 Th (aB 134 Tg (aB 137 Tf (aB 138 Te (aB 139 Td anF))))))))))))))))))))))))))))))))))))))))))))))))))))))))))))))))))))))))))))))))))))))))))))))))))))))))))))))))))))))))))
theorem av : kx Try.prog te := (af anE (af anD (af anC (af anB (af anA (af anz (af anx (af anw (af anv (af akU (af akT (af akS (af akR (af akQ (af akP (af akO (af akN (af akM (af akL (af akK (af akJ (af akI (af akH (af akG (af akF (af akE (af akD (af akC (af akB (af akA (af akz (af aky (af akx (af akw (af akv (af aku (af akt (af aks (af akr (af akq (af akp (af ako (af akn (af akm (af akl (af akk (af akj (af aki (af akh (af akg (af akf (af ake (af akd (af akc (af akb (af aka (af aj9 (af aj8 (af aj7 (af aj6 (af aj5 (af aj4 (af aj3 (af aj2 (af aj1 (af aj0 (af ajZ (af ajY (af ajX (af ajW (af ajV (af ajU (af ajT (af ajS (af ajR (af ajQ (af ajP (af ajO (af ajN (af ajM (af ajL (af ajK (af ajJ (af ajI (af ajH (af ajG (af ajF (af ajE (af ajD (af ajC (af agk (af agj (af agi (af agh (af agf (af age (af agd (af agc (af agb (af aga (af af9 (af af8 (af af7 (af af6 (af af5 (af af4 (af af3 (af af2 (af af1 (af af0 (af afZ (af afY (af afX (af afW (af afV (af afU (af afT (af afS (af afR (af afQ (af afP (af afO agl))))))))))))))))))))))))))))))))))))))))))))))))))))))))))))))))))))))))))))))))))))))))))))))))))))))))))))))))))))))))))
theorem follows : Try.prog.follows .mixedOrders = true := by kernel_rfl
def E0 : Env := aet
theorem apL : aV Try.prog E0 := aes
theorem amZ : aw E0 := RM
end Go.Proofs.Ytkedomfjjahjnaa

namespace Go.Proofs.Ytkedomfjjahjnaa
open Sx Go
def Sx.aa.nat (e : aa) : Nat := e.w0.toNat + 18446744073709551616 * (e.w1.toNat + 18446744073709551616 * (e.w2.toNat + 18446744073709551616 * e.w3.toNat))
def ofN (n : Nat) : aa := ⟨UInt64.ofNat n, UInt64.ofNat (n / 18446744073709551616), UInt64.ofNat (n / 18446744073709551616 / 18446744073709551616), UInt64.ofNat (n / 18446744073709551616 / 18446744073709551616 / 18446744073709551616)⟩
def rE (x y c : UInt64) : UInt64 := UInt64.ofNat ((x.toNat + y.toNat + c.toNat) % 18446744073709551616)
def tN (x y c : UInt64) : UInt64 := UInt64.ofNat ((x.toNat + y.toNat + c.toNat) / 18446744073709551616)
def mK (x y c : UInt64) : UInt64 := UInt64.ofNat ((x.toNat + 18446744073709551616 - y.toNat - c.toNat) % 18446744073709551616)
def KN (x y c : UInt64) : UInt64 := UInt64.ofNat (if x.toNat < y.toNat + c.toNat then 1 else 0)
def afF (x y : UInt64) : UInt64 := UInt64.ofNat (x.toNat * y.toNat / 18446744073709551616)
theorem fW (x : UInt64) (k : Nat) (hk : k < 64) : (bu x (k : Int)).toNat = x.toNat / 2 ^ k := by
  unfold bu
  rw [if_pos (by omega), UInt64.toNat_shiftRight, UInt64.toNat_ofNat', Int.toNat_natCast, Nat.shiftRight_eq_div_pow]
  congr 2
  omega
theorem lp (x : UInt64) (k : Nat) (hk : k < 64) : (cD x (k : Int)).toNat = x.toNat * 2 ^ k % 2 ^ 64 := by
  unfold cD
  rw [if_pos (by omega), UInt64.toNat_shiftLeft, UInt64.toNat_ofNat', Int.toNat_natCast, Nat.shiftLeft_eq]
  congr 3
  omega
theorem ij (x : UInt64) : (x &&& 4294967295).toNat = x.toNat % 4294967296 := by
  rw [UInt64.toNat_and]
  exact Nat.and_two_pow_sub_one_eq_mod x.toNat 32
theorem anZ (a b : UInt64) : bu a 32 * bu b 32 + bu (bu a 32 * (b &&& 4294967295) + bu ((a &&& 4294967295) * (b &&& 4294967295)) 32) 32 +
    bu (((bu a 32 * (b &&& 4294967295) + bu ((a &&& 4294967295) * (b &&& 4294967295)) 32) &&& 4294967295) + (a &&& 4294967295) * bu b 32) 32 = afF a b := by
  have ha := a.toNat_lt
  have hb := b.toNat_lt
  obtain ⟨h1, h2, h3, h4⟩ := Lib.mul64_hi a.toNat b.toNat ha hb
  have s32 : ∀ x : UInt64, (bu x 32).toNat = x.toNat / 4294967296 := fun x => fW x 32 (by omega)
  have hx := Lib.half_mul_le (a := a.toNat / 4294967296) (b := b.toNat / 4294967296) (by omega) (by omega)
  have hy := Lib.half_mul_le (a := a.toNat / 4294967296) (b := b.toNat % 4294967296) (by omega) (by omega)
  have hz := Lib.half_mul_le (a := a.toNat % 4294967296) (b := b.toNat / 4294967296) (by omega) (by omega)
  have e0 : ((a &&& 4294967295) * (b &&& 4294967295)).toNat = a.toNat % 4294967296 * (b.toNat % 4294967296) := by
    rw [UInt64.toNat_mul, ij, ij, Nat.mod_eq_of_lt h1]
  have e1 : (bu a 32 * (b &&& 4294967295) + bu ((a &&& 4294967295) * (b &&& 4294967295)) 32).toNat = a.toNat / 4294967296 * (b.toNat % 4294967296) + a.toNat % 4294967296 * (b.toNat % 4294967296) / 4294967296 := by
    rw [UInt64.toNat_add, UInt64.toNat_mul, s32, s32, ij, e0, Nat.mod_eq_of_lt (a := a.toNat / 4294967296 * (b.toNat % 4294967296)) (by omega), Nat.mod_eq_of_lt h2]
  have e2 : (((bu a 32 * (b &&& 4294967295) + bu ((a &&& 4294967295) * (b &&& 4294967295)) 32) &&& 4294967295) + (a &&& 4294967295) * bu b 32).toNat =
      (a.toNat / 4294967296 * (b.toNat % 4294967296) + a.toNat % 4294967296 * (b.toNat % 4294967296) / 4294967296) % 4294967296 + a.toNat % 4294967296 * (b.toNat / 4294967296) := by
    rw [UInt64.toNat_add, UInt64.toNat_mul, ij, ij, s32, e1, Nat.mod_eq_of_lt (a := a.toNat % 4294967296 * (b.toNat / 4294967296)) (by omega), Nat.mod_eq_of_lt h3]
  have hq : a.toNat * b.toNat / 18446744073709551616 < 18446744073709551616 := by
    rw [Nat.div_lt_iff_lt_mul (by omega)]
    exact Nat.mul_lt_mul'' ha hb
  rw [← UInt64.toNat_inj, UInt64.toNat_add, UInt64.toNat_add, UInt64.toNat_mul, s32, s32, s32, s32, e1, e2]
  have e3 : (afF a b).toNat = a.toNat * b.toNat / 18446744073709551616 := by
    unfold afF
    rw [UInt64.toNat_ofNat', Nat.mod_eq_of_lt hq]
  rw [e3, ← h4]
  rw [← h4] at hq
  omega
def ane (h l y : UInt64) : UInt64 := UInt64.ofNat ((h.toNat * 18446744073709551616 + l.toNat) / y.toNat)
def NJ (h l y : UInt64) : UInt64 := UInt64.ofNat ((h.toNat * 18446744073709551616 + l.toNat) % y.toNat)
theorem ah6 {m A B N : Nat} (hm : 0 < m) (e : N = A + m * B) : N / m = B + A / m ∧ N % m = A % m := by
  subst e
  exact ⟨by rw [Nat.add_mul_div_left _ _ hm, Nat.add_comm], Nat.add_mul_mod_self_left ..⟩
theorem JS {m N u t q r K L : Nat} (hm : 0 < m) (hL : 0 < L) (hu : N = u * K + t) (hq : u = q * (m * L) + r) :
    N / m = q * (L * K) + ((r * K + t) * L) / (m * L) ∧ N % m = ((r * K + t) * L) % (m * L) / L := by
  have e : N = (r * K + t) + m * (q * (L * K)) := by
    have h1 : q * (m * L) * K = m * (q * (L * K)) := by
      rw [Nat.mul_assoc q, Nat.mul_assoc m, Nat.mul_left_comm m q]
    rw [hu, hq, Nat.add_mul, h1]
    omega
  obtain ⟨h1, h2⟩ := ah6 hm e
  rw [h1, h2, Nat.mul_div_mul_right _ _ hL, Nat.mul_mod_mul_right, Nat.mul_div_cancel _ hL]
  exact ⟨rfl, rfl⟩
theorem kr (x y c : UInt64) : x.toNat + y.toNat + c.toNat = (rE x y c).toNat + 18446744073709551616 * (tN x y c).toNat := by
  have hx := x.toNat_lt
  have hy := y.toNat_lt
  have hc := c.toNat_lt
  unfold rE tN
  rw [UInt64.toNat_ofNat', UInt64.toNat_ofNat', Nat.mod_eq_of_lt (b := 2 ^ 64) (by omega), Nat.mod_eq_of_lt (b := 2 ^ 64) (by omega)]
  omega
theorem yG {x y c : UInt64} (hc : c.toNat ≤ 1) : (tN x y c).toNat ≤ 1 := by
  have hx := x.toNat_lt
  have hy := y.toNat_lt
  unfold tN
  rw [UInt64.toNat_ofNat', Nat.mod_eq_of_lt (by omega)]
  omega
theorem tX (x y c : UInt64) : (KN x y c).toNat = if x.toNat < y.toNat + c.toNat then 1 else 0 := by
  unfold KN
  rw [UInt64.toNat_ofNat']
  split <;> rfl
theorem wG {x y c : UInt64} : (KN x y c).toNat ≤ 1 := by
  rw [tX]
  split <;> omega
theorem tY {x y c : UInt64} (hc : c.toNat ≤ 1) : x.toNat + 18446744073709551616 * (KN x y c).toNat = (mK x y c).toNat + y.toNat + c.toNat := by
  have hx := x.toNat_lt
  have hy := y.toNat_lt
  rw [tX]
  unfold mK
  rw [UInt64.toNat_ofNat', Nat.mod_eq_of_lt (b := 2 ^ 64) (by omega)]
  split <;> omega
theorem gn (e : aa) : e.nat < 115792089237316195423570985008687907853269984665640564039457584007913129639936 := by
  have h0 := e.w0.toNat_lt
  have h1 := e.w1.toNat_lt
  have h2 := e.w2.toNat_lt
  have h3 := e.w3.toNat_lt
  unfold Sx.aa.nat
  omega
theorem wD {a b X Y : Nat} (ha : a < 18446744073709551616) (hb : b < 18446744073709551616) (h : a + 18446744073709551616 * X = b + 18446744073709551616 * Y) : a = b ∧ X = Y := by
  omega
theorem jV {e f : aa} (h : e.nat = f.nat) : e = f := by
  unfold Sx.aa.nat at h
  obtain ⟨h0, h⟩ := wD e.w0.toNat_lt f.w0.toNat_lt h
  obtain ⟨h1, h⟩ := wD e.w1.toNat_lt f.w1.toNat_lt h
  obtain ⟨h2, h3⟩ := wD e.w2.toNat_lt f.w2.toNat_lt h
  obtain ⟨a, b, c, d⟩ := e
  obtain ⟨a', b', c', d'⟩ := f
  simp only at h0 h1 h2 h3
  rw [UInt64.toNat_inj.1 h0, UInt64.toNat_inj.1 h1, UInt64.toNat_inj.1 h2, UInt64.toNat_inj.1 h3]
theorem div_eq {n a b : Nat} (ha : a < 18446744073709551616) (h : n = a + 18446744073709551616 * b) : n / 18446744073709551616 = b ∧ n % 18446744073709551616 = a := by
  omega
theorem acG {n : Nat} {a b c d : UInt64} {k : Nat} (h : n = a.toNat + 18446744073709551616 * (b.toNat + 18446744073709551616 * (c.toNat + 18446744073709551616 * (d.toNat + 18446744073709551616 * k)))) : ofN n = ⟨a, b, c, d⟩ := by
  obtain ⟨h1, h0⟩ := div_eq a.toNat_lt h
  obtain ⟨h2, h3⟩ := div_eq b.toNat_lt h1
  obtain ⟨h4, h5⟩ := div_eq c.toNat_lt h2
  have h6 : n / 18446744073709551616 / 18446744073709551616 / 18446744073709551616 % 18446744073709551616 = d.toNat := by
    rw [h4]
    have := d.toNat_lt
    omega
  unfold ofN
  have e : ∀ (m : Nat) (x : UInt64), m % 18446744073709551616 = x.toNat → UInt64.ofNat m = x := fun m x hm => by
    rw [← UInt64.toNat_inj, UInt64.toNat_ofNat']
    exact hm
  rw [e _ a h0, e _ b h3, e _ c h5, e _ d h6]
theorem QE (n : Nat) : (ofN n).nat = n % 115792089237316195423570985008687907853269984665640564039457584007913129639936 := by
  unfold ofN aa.nat
  simp only [UInt64.toNat_ofNat']
  rw [show (2 : Nat) ^ 64 = 18446744073709551616 from rfl]
  omega
theorem gY {n : Nat} (h : n < 115792089237316195423570985008687907853269984665640564039457584007913129639936) : (ofN n).nat = n := by
  rw [QE]
  exact Nat.mod_eq_of_lt h
theorem qB (e : aa) : ofN e.nat = e := jV (gY (gn e))
def tO (a b : aa) : aa × Bool := (ofN (a.nat + b.nat), Nat.ble 115792089237316195423570985008687907853269984665640564039457584007913129639936 (a.nat + b.nat))
def lb (a b : aa) : aa × Bool := (ofN (a.nat + 115792089237316195423570985008687907853269984665640564039457584007913129639936 - b.nat), Nat.blt a.nat b.nat)
theorem Kn {x y c s k X Y R : Nat} (h1 : x + y + c = s + 18446744073709551616 * k) (h2 : X + Y + k = R) : (x + 18446744073709551616 * X) + (y + 18446744073709551616 * Y) + c = s + 18446744073709551616 * R := by
  omega
theorem H4 {x y c s k X Y R Q : Nat} (h1 : x + 18446744073709551616 * k = s + y + c) (h2 : X + 18446744073709551616 * Q = R + Y + k) : (x + 18446744073709551616 * X) + 18446744073709551616 * (18446744073709551616 * Q) = s + 18446744073709551616 * R + (y + 18446744073709551616 * Y) + c := by
  omega
theorem FL (a b : aa) : let k0 := tN a.w0 b.w0 0; let k1 := tN a.w1 b.w1 k0; let k2 := tN a.w2 b.w2 k1; let k3 := tN a.w3 b.w3 k2
    (k0.toNat ≤ 1 ∧ k1.toNat ≤ 1 ∧ k2.toNat ≤ 1) ∧ tO a b = (⟨rE a.w0 b.w0 0, rE a.w1 b.w1 k0, rE a.w2 b.w2 k1, rE a.w3 b.w3 k2⟩, !(k3 == 0)) := by
  intro k0 k1 k2 k3
  have l0 : k0.toNat ≤ 1 := yG (by decide)
  have l1 : k1.toNat ≤ 1 := yG l0
  have l2 : k2.toNat ≤ 1 := yG l1
  have l3 : k3.toNat ≤ 1 := yG l2
  refine ⟨⟨l0, l1, l2⟩, ?_⟩
  have h := Kn (kr a.w0 b.w0 0) (Kn (kr a.w1 b.w1 k0) (Kn (kr a.w2 b.w2 k1) (kr a.w3 b.w3 k2)))
  rw [show (0 : UInt64).toNat = 0 from rfl, Nat.add_zero] at h
  unfold tO
  have hn : a.nat + b.nat = (rE a.w0 b.w0 0).toNat + 18446744073709551616 * ((rE a.w1 b.w1 k0).toNat + 18446744073709551616 * ((rE a.w2 b.w2 k1).toNat + 18446744073709551616 * ((rE a.w3 b.w3 k2).toNat + 18446744073709551616 * k3.toNat))) := h
  rw [acG hn]
  congr 1
  have hs := gn ⟨rE a.w0 b.w0 0, rE a.w1 b.w1 k0, rE a.w2 b.w2 k1, rE a.w3 b.w3 k2⟩
  unfold Sx.aa.nat at hs
  simp only at hs
  have hk : k3.toNat = 0 ∨ k3.toNat = 1 := by omega
  rcases hk with hk | hk
  · have e : k3 = 0 := UInt64.toNat_inj.1 hk
    rw [hk] at hn
    rw [e]
    cases hb : Nat.ble 115792089237316195423570985008687907853269984665640564039457584007913129639936 (a.nat + b.nat)
    · rfl
    · have := Nat.le_of_ble_eq_true hb
      omega
  · have e : (k3 == 0) = false := by
      have : ¬ k3 = 0 := fun e => by rw [e] at hk; cases hk
      simpa using this
    rw [hk] at hn
    rw [e]
    exact Nat.ble_eq_true_of_le (by omega)
theorem FN (a b : aa) : let k0 := KN a.w0 b.w0 0; let k1 := KN a.w1 b.w1 k0; let k2 := KN a.w2 b.w2 k1; let k3 := KN a.w3 b.w3 k2
    (k0.toNat ≤ 1 ∧ k1.toNat ≤ 1 ∧ k2.toNat ≤ 1) ∧ lb a b = (⟨mK a.w0 b.w0 0, mK a.w1 b.w1 k0, mK a.w2 b.w2 k1, mK a.w3 b.w3 k2⟩, !(k3 == 0)) := by
  intro k0 k1 k2 k3
  have l0 : k0.toNat ≤ 1 := wG
  have l1 : k1.toNat ≤ 1 := wG
  have l2 : k2.toNat ≤ 1 := wG
  have l3 : k3.toNat ≤ 1 := wG
  refine ⟨⟨l0, l1, l2⟩, ?_⟩
  have h := H4 (tY (x := a.w0) (y := b.w0) (c := 0) (by decide)) (H4 (tY (x := a.w1) (y := b.w1) l0) (H4 (tY (x := a.w2) (y := b.w2) l1) (tY (x := a.w3) (y := b.w3) l2)))
  rw [show (0 : UInt64).toNat = 0 from rfl, Nat.add_zero] at h
  unfold lb
  have hs := gn ⟨mK a.w0 b.w0 0, mK a.w1 b.w1 k0, mK a.w2 b.w2 k1, mK a.w3 b.w3 k2⟩
  have h' : a.nat + 18446744073709551616 * (18446744073709551616 * (18446744073709551616 * (18446744073709551616 * k3.toNat))) = aa.nat ⟨mK a.w0 b.w0 0, mK a.w1 b.w1 k0, mK a.w2 b.w2 k1, mK a.w3 b.w3 k2⟩ + b.nat := h
  have ha := gn a
  have hb := gn b
  have hS := gn ⟨mK a.w0 b.w0 0, mK a.w1 b.w1 k0, mK a.w2 b.w2 k1, mK a.w3 b.w3 k2⟩
  have e1 : ofN (a.nat + 115792089237316195423570985008687907853269984665640564039457584007913129639936 - b.nat) = ⟨mK a.w0 b.w0 0, mK a.w1 b.w1 k0, mK a.w2 b.w2 k1, mK a.w3 b.w3 k2⟩ := by
    apply jV
    rw [QE]
    generalize aa.nat ⟨mK a.w0 b.w0 0, mK a.w1 b.w1 k0, mK a.w2 b.w2 k1, mK a.w3 b.w3 k2⟩ = S at *
    omega
  rw [e1]
  congr 1
  generalize aa.nat ⟨mK a.w0 b.w0 0, mK a.w1 b.w1 k0, mK a.w2 b.w2 k1, mK a.w3 b.w3 k2⟩ = S at *
  have hk : k3.toNat = 0 ∨ k3.toNat = 1 := by omega
  rcases hk with hk | hk
  · have e : k3 = 0 := UInt64.toNat_inj.1 hk
    rw [hk] at h'
    rw [e]
    cases hq : Nat.blt a.nat b.nat
    · rfl
    · have := cL hq
      omega
  · have e : (k3 == 0) = false := by
      have : ¬ k3 = 0 := fun e => by rw [e] at hk; cases hk
      simpa using this
    rw [hk] at h'
    rw [e]
    exact Nat.ble_eq_true_of_le (show a.nat + 1 ≤ b.nat by omega)
def lst (e : aa) : List UInt64 := [e.w0, e.w1, e.w2, e.w3]
def elemOf (l : List UInt64) : aa := ⟨l.getD 0 0, l.getD 1 0, l.getD 2 0, l.getD 3 0⟩
theorem bc {l : List UInt64} (h : l.length = 4) : lst (elemOf l) = l := by
  match l, h with
  | [a, b, c, d], _ => rfl
theorem YB (e : aa) : elemOf (lst e) = e := rfl
theorem cV (e : aa) : (lst e).length = 4 := rfl
theorem nw {h l y : UInt64} (hy : 0 < y.toNat) : (NJ h l y).toNat = (h.toNat * 18446744073709551616 + l.toNat) % y.toNat := by
  unfold NJ
  rw [UInt64.toNat_ofNat']
  exact Nat.mod_eq_of_lt (Nat.lt_trans (Nat.mod_lt _ hy) y.toNat_lt)
theorem Je (r x m : Nat) : (r % m * 18446744073709551616 + x) % m = (r * 18446744073709551616 + x) % m := by
  rw [Nat.add_mod, Nat.mul_mod, Nat.mod_mod, ← Nat.mul_mod, ← Nat.add_mod]
theorem mI {a b : aa} (h : b.nat ≤ a.nat) : (lb a b).1.nat = a.nat - b.nat := by
  have ha := gn a
  show (ofN _).nat = _
  rw [QE]
  omega
theorem Si {w N r : Nat} (hr : r < 64) : (w + 18446744073709551616 * N) / 2 ^ r % 2 = w / 2 ^ r % 2 := by
  have e : 18446744073709551616 * N = 2 ^ r * (2 * (2 ^ (63 - r) * N)) := by
    rw [← Nat.mul_assoc, ← Nat.mul_assoc, Nat.mul_comm (2 ^ r) 2, Nat.mul_assoc 2, ← Nat.pow_add, show r + (63 - r) = 63 by omega]
  rw [e, Nat.add_mul_div_left _ _ (Nat.two_pow_pos r), Nat.add_mul_mod_self_left]
theorem wC {w N : Nat} (hw : w < 18446744073709551616) (r : Nat) : (w + 18446744073709551616 * N) / 2 ^ (64 + r) = N / 2 ^ r := by
  rw [Nat.pow_add, ← Nat.div_div_eq_div_mul, show 2 ^ 64 = 18446744073709551616 from rfl, show (w + 18446744073709551616 * N) / 18446744073709551616 = N by omega]
theorem V9 {a : aa} {q r : Nat} (hq : q < 4) (hr : r < 64) : ((lst a).getD q 0).toNat / 2 ^ r % 2 = a.nat / 2 ^ (64 * q + r) % 2 := by
  have h0 := a.w0.toNat_lt
  have h1 := a.w1.toNat_lt
  have h2 := a.w2.toNat_lt
  unfold Sx.aa.nat
  have hq' : q = 0 ∨ q = 1 ∨ q = 2 ∨ q = 3 := by omega
  rcases hq' with rfl | rfl | rfl | rfl
  · rw [Nat.mul_zero, Nat.zero_add, Si hr]; rfl
  · rw [show 64 * 1 + r = 64 + r by omega, wC h0, Si hr]; rfl
  · rw [show 64 * 2 + r = 64 + (64 + r) by omega, wC h0, wC h1, Si hr]; rfl
  · rw [show 64 * 3 + r = 64 + (64 + (64 + r)) by omega, wC h0, wC h1, wC h2]; rfl
end Go.Proofs.Ytkedomfjjahjnaa

namespace Go.Proofs.Ytkedomfjjahjnaa
open Sx Go
set_option maxRecDepth 100000
def Kl : aq := ⟨[.val false .u64, .val false .u64, .val false .u64], [], true, 0, false⟩
abbrev afo : Type := ((UInt64) × (UInt64) × (UInt64) × Unit) × (Unit)
def afn : ay := ⟨[.val false .u64, .val false .u64], [], false⟩
def yD (x : afo) : Bool := decide (x.1.2.2.1.toNat ≤ 1)
def Wb (x : afo) : OT Kl.Y := .ok ⟨afn, ((rE x.1.1 x.1.2.1 x.1.2.2.1, tN x.1.1 x.1.2.1 x.1.2.2.1, ()), ())⟩
theorem Y8 (a b c : UInt64) (hc : c.toNat ≤ 1) (w : World) : (callFunc 114 #[fU a, fU b, fU c]).run Try.prog w = .ok (.value (.tuple #[fU (rE a b c), fU (tN a b c)])) w := by
  unfold fU
  rw [run_callFunc_extern Try.func114 (by kernel_rfl) (by kernel_rfl) (by kernel_rfl) (e := add64Entry) (by kernel_rfl), run_add64 (a.toNat : Int) (b.toNat : Int) (c.toNat : Int) (by omega) (by omega) (by omega) (by omega)]
  have ha := a.toNat_lt
  have hb := b.toNat_lt
  have e1 : (((rE a b c).toNat : Nat) : Int) = ((a.toNat : Int) + b.toNat + c.toNat) % 18446744073709551616 := by
    unfold rE
    rw [UInt64.toNat_ofNat', Nat.mod_eq_of_lt (by omega)]
    omega
  have e2 : (((tN a b c).toNat : Nat) : Int) = ((a.toNat : Int) + b.toNat + c.toNat) / 18446744073709551616 := by
    unfold tN
    rw [UInt64.toNat_ofNat', Nat.mod_eq_of_lt (by omega)]
    omega
  rw [e1, e2]
  rfl
theorem afm : ab Try.prog 114 (Kl.aK yD Wb) := by
  refine ai6 (k := 0) (by kernel_rfl) fun x oy vs N w hp ho hr => ?_
  obtain ⟨⟨a, b, c, ⟨⟩⟩, ⟨⟩⟩ := x
  cases ho
  have hc : c.toNat ≤ 1 := of_decide_eq_true hp
  have hr' : SV.bO N [.u64 a, .u64 b, .u64 c] vs := hr
  simp only [SV.bO, SV.rel] at hr'
  obtain ⟨_, _, rfl, rfl, _, _, rfl, rfl, _, _, rfl, rfl, rfl⟩ := hr'
  refine ⟨.tup [.u64 (rE a b c), .u64 (tN a b c)], _, Y8 a b c hc w, ?_, ⟨rfl, by kernel_rfl⟩⟩
  simp only [SV.rel]
  exact ⟨_, rfl, by simp only [SV.bO, SV.rel]; exact ⟨_, _, rfl, rfl, _, _, rfl, rfl, rfl⟩⟩
def ta : cI := (Kl.aK yD Wb)
theorem Oz : ab Try.prog 114 ta := afm
theorem Oy : aJ ta := aA
def KK : Env := az 114 ta E0
theorem SW : aV Try.prog KK := ag Oz apL
theorem KJ : aw KK := ac Oy amZ
def Kb : aq := ⟨[.val false .u64, .val false .u64, .val false .u64], [], true, 0, false⟩
abbrev afa : Type := ((UInt64) × (UInt64) × (UInt64) × Unit) × (Unit)
def ae9 : ay := ⟨[.val false .u64, .val false .u64], [], false⟩
def yr (x : afa) : Bool := decide (x.1.2.2.1.toNat ≤ 1)
def V5 (x : afa) : OT Kb.Y := .ok ⟨ae9, ((mK x.1.1 x.1.2.1 x.1.2.2.1, KN x.1.1 x.1.2.1 x.1.2.2.1, ()), ())⟩
def aiJ : Array Value → Sem Value := fun args => do
  let (x, y, b) ← Extern.MathBitsCarry.three "Sub64" args
  pure (Extern.MathBitsCarry.pair ((x + Extern.MathBitsCarry.m64 - y - b) % Extern.MathBitsCarry.m64) (if x < y + b then 1 else 0))
theorem Wx {P : Program} (x y b : Nat) (hb : b ≤ 1) (w : World) :
    (aiJ #[.int .u64 x, .int .u64 y, .int .u64 b]).run P w =
      .ok (.tuple #[.int .u64 (((x + 18446744073709551616 - y - b) % 18446744073709551616 : Nat) : Int), .int .u64 ((if x < y + b then 1 else 0 : Nat) : Int)]) w := by
  have : b = 0 ∨ b = 1 := by omega
  rcases this with rfl | rfl <;> rfl
theorem Y5 (a b c : UInt64) (hc : c.toNat ≤ 1) (w : World) : (callFunc 109 #[fU a, fU b, fU c]).run Try.prog w = .ok (.value (.tuple #[fU (mK a b c), fU (KN a b c)])) w := by
  unfold fU
  rw [run_callFunc_extern Try.func109 (by kernel_rfl) (by kernel_rfl) (by kernel_rfl) (e := aiJ) (by kernel_rfl), Wx a.toNat b.toNat c.toNat (by omega)]
  have ha := a.toNat_lt
  have hb := b.toNat_lt
  have e1 : (mK a b c).toNat = (a.toNat + 18446744073709551616 - b.toNat - c.toNat) % 18446744073709551616 := by
    unfold mK
    rw [UInt64.toNat_ofNat', Nat.mod_eq_of_lt (by omega)]
  have e2 : (KN a b c).toNat = if a.toNat < b.toNat + c.toNat then 1 else 0 := by
    unfold KN
    rw [UInt64.toNat_ofNat', Nat.mod_eq_of_lt (by split <;> omega)]
  rw [e1, e2]
  rfl
theorem ae8 : ab Try.prog 109 (Kb.aK yr V5) := by
  refine ai6 (k := 0) (by kernel_rfl) fun x oy vs N w hp ho hr => ?_
  obtain ⟨⟨a, b, c, ⟨⟩⟩, ⟨⟩⟩ := x
  cases ho
  have hc : c.toNat ≤ 1 := of_decide_eq_true hp
  have hr' : SV.bO N [.u64 a, .u64 b, .u64 c] vs := hr
  simp only [SV.bO, SV.rel] at hr'
  obtain ⟨_, _, rfl, rfl, _, _, rfl, rfl, _, _, rfl, rfl, rfl⟩ := hr'
  refine ⟨.tup [.u64 (mK a b c), .u64 (KN a b c)], _, Y5 a b c hc w, ?_, ⟨rfl, by kernel_rfl⟩⟩
  simp only [SV.rel]
  exact ⟨_, rfl, by simp only [SV.bO, SV.rel]; exact ⟨_, _, rfl, rfl, _, _, rfl, rfl, rfl⟩⟩
def s6 : cI := (Kb.aK yr V5)
theorem Oa : ab Try.prog 109 s6 := ae8
theorem N9 : aJ s6 := aA
def wq : Env := az 109 s6 KK
theorem tE : aV Try.prog wq := ag Oa SW
theorem wo : aw wq := ac N9 KJ
theorem O9 : bg Try.prog te wq := aN follows av tE wo
def gO : aq := ⟨[.val false .u64, .val false .u64], [], true, 0, false⟩
abbrev yv : Type := ((UInt64) × (UInt64) × Unit) × (Unit)
def D7 : ay := ⟨[.val false .u64, .val false .u64], [], false⟩
def Hx : SV → Option ay := fun _ => some D7
def Ba (a0 : UInt64) (a1 : UInt64) : OT gO.Y :=
  let z0 : UInt64 := bu a0 (32 : Int)
  let z1 : UInt64 := bu a1 (32 : Int)
  let z2 : UInt64 := z0 * (a1 &&& (4294967295 : UInt64)) + bu ((a0 &&& (4294967295 : UInt64)) * (a1 &&& (4294967295 : UInt64))) (32 : Int)
  (.ok ⟨D7, ((z0 * z1 + bu z2 (32 : Int) + bu ((z2 &&& (4294967295 : UInt64)) + (a0 &&& (4294967295 : UInt64)) * z1) (32 : Int), (a0 * a1, ())), ())⟩)
theorem aio (x : yv) (Q : gO.Y → Prop) : wpf te wq ax 1000 Try.f118 (gO.inp.inj x).tm (gO.inp.inj x).hp (fnK gO Hx Q) (fun _ _ => False) = (Ba (x.1.1) (x.1.2.1)).wpR Q := by kernel_rfl
theorem Sb (pre : yv → Bool) (F : yv → OT gO.Y) (hF : ∀ (x : yv) oy, pre x = true → (F x).run = some oy → (Ba (x.1.1) (x.1.2.1)).run = some oy) : ab Try.prog 118 (gO.aK pre F) :=
  aD av tE O9 (f := 118) (fn := Try.f118) (c := ak Try.f118) (by kernel_rfl) (by kernel_rfl) (by kernel_rfl) (S := gO) (k := 0) (by kernel_rfl) (fun R hR => ae) (n := 1000) (sel := Hx) (fun v o h => by cases h; rfl) (pre := pre) (F := F) (T := fun x => Ba (x.1.1) (x.1.2.1)) (fun x Q => aio x Q) hF
def Hy (_ : yv) : Bool := true
def Kc (x : yv) : OT gO.Y := .ok ⟨D7, ((afF x.1.1 x.1.2.1, (x.1.1 * x.1.2.1, ())), ())⟩
theorem afb : ab Try.prog 118 (gO.aK Hy Kc) := Sb _ _ fun x oy _ ho => by
  rw [← ho]
  simp only [Kc, Ba, anZ]
def s7 : cI := (gO.aK Hy Kc)
theorem Od : ab Try.prog 118 s7 := afb
theorem Oc : aJ s7 := aA
def wv : Env := az 118 s7 wq
theorem tF : aV Try.prog wv := ag Od tE
theorem wu : aw wv := ac Oc wo
theorem Pa : bg Try.prog te wv := aN follows av tF wu
def gP : aq := ⟨[.val false .u64], [], true, 0, false⟩
abbrev yB : Type := ((UInt64) × Unit) × (Unit)
def ej : ay := ⟨[.val false .int], [], false⟩
def HA : SV → Option ay := fun _ => some ej
def vp (a0 : UInt64) : OT gP.Y :=
  let z0 : UInt64 := bu a0 (32 : Int)
  let z1 : UInt64 := bu z0 (16 : Int)
  let z2 : Int := (↑(UInt8.toNat (UInt64.toUInt8 (bu z1 (8 : Int)))) : Int)
  let z3 : List UInt8 := List.replicate 64 (8 : UInt8)
  let z4 : List UInt8 := List.append (List.append [(0 : UInt8), (1 : UInt8), (2 : UInt8), (2 : UInt8), (3 : UInt8), (3 : UInt8), (3 : UInt8), (3 : UInt8), (4 : UInt8), (4 : UInt8), (4 : UInt8), (4 : UInt8), (4 : UInt8), (4 : UInt8), (4 : UInt8), (4 : UInt8), (5 : UInt8), (5 : UInt8), (5 : UInt8), (5 : UInt8), (5 : UInt8), (5 : UInt8), (5 : UInt8), (5 : UInt8), (5 : UInt8), (5 : UInt8), (5 : UInt8), (5 : UInt8), (5 : UInt8), (5 : UInt8), (5 : UInt8), (5 : UInt8), (6 : UInt8), (6 : UInt8), (6 : UInt8), (6 : UInt8), (6 : UInt8), (6 : UInt8), (6 : UInt8), (6 : UInt8), (6 : UInt8), (6 : UInt8), (6 : UInt8), (6 : UInt8), (6 : UInt8), (6 : UInt8), (6 : UInt8), (6 : UInt8), (6 : UInt8), (6 : UInt8), (6 : UInt8), (6 : UInt8), (6 : UInt8), (6 : UInt8), (6 : UInt8), (6 : UInt8), (6 : UInt8), (6 : UInt8), (6 : UInt8), (6 : UInt8), (6 : UInt8), (6 : UInt8), (6 : UInt8), (6 : UInt8)] (List.replicate 64 (7 : UInt8))) (List.append z3 z3)
  let z5 : Int := (56 : Int) + (↑(UInt8.toNat (List.getD z4 (Int.toNat z2) (0 : UInt8))) : Int)
  let z6 : Int := (↑(UInt8.toNat (UInt64.toUInt8 z1)) : Int)
  let z7 : Int := (48 : Int) + (↑(UInt8.toNat (List.getD z4 (Int.toNat z6) (0 : UInt8))) : Int)
  let z8 : Int := (↑(UInt8.toNat (UInt64.toUInt8 (bu z0 (8 : Int)))) : Int)
  let z9 : Int := (40 : Int) + (↑(UInt8.toNat (List.getD z4 (Int.toNat z8) (0 : UInt8))) : Int)
  let z10 : Int := (↑(UInt8.toNat (UInt64.toUInt8 z0)) : Int)
  let z11 : Int := (32 : Int) + (↑(UInt8.toNat (List.getD z4 (Int.toNat z10) (0 : UInt8))) : Int)
  let z12 : UInt64 := bu a0 (16 : Int)
  let z13 : Int := (↑(UInt8.toNat (UInt64.toUInt8 (bu z12 (8 : Int)))) : Int)
  let z14 : Int := (24 : Int) + (↑(UInt8.toNat (List.getD z4 (Int.toNat z13) (0 : UInt8))) : Int)
  let z15 : Int := (↑(UInt8.toNat (UInt64.toUInt8 z12)) : Int)
  let z16 : Int := (16 : Int) + (↑(UInt8.toNat (List.getD z4 (Int.toNat z15) (0 : UInt8))) : Int)
  let z17 : Int := (↑(UInt8.toNat (UInt64.toUInt8 (bu a0 (8 : Int)))) : Int)
  let z18 : Int := (8 : Int) + (↑(UInt8.toNat (List.getD z4 (Int.toNat z17) (0 : UInt8))) : Int)
  let z19 : Int := (↑(UInt8.toNat (UInt64.toUInt8 a0)) : Int)
  let z20 : Int := (0 : Int) + (↑(UInt8.toNat (List.getD z4 (Int.toNat z19) (0 : UInt8))) : Int)
  (.br (decide ((4294967296 : UInt64) ≤ a0))
  (.br (decide ((65536 : UInt64) ≤ z0))
    (.br (decide ((256 : UInt64) ≤ z1))
      (gd [inB z2 256, inR z5] (.ok ⟨ej, ((z5, ()), ())⟩))
      (gd [inB z6 256, inR z7] (.ok ⟨ej, ((z7, ()), ())⟩)))
    (.br (decide ((256 : UInt64) ≤ z0))
      (gd [inB z8 256, inR z9] (.ok ⟨ej, ((z9, ()), ())⟩))
      (gd [inB z10 256, inR z11] (.ok ⟨ej, ((z11, ()), ())⟩))))
  (.br (decide ((65536 : UInt64) ≤ a0))
    (.br (decide ((256 : UInt64) ≤ z12))
      (gd [inB z13 256, inR z14] (.ok ⟨ej, ((z14, ()), ())⟩))
      (gd [inB z15 256, inR z16] (.ok ⟨ej, ((z16, ()), ())⟩)))
    (.br (decide ((256 : UInt64) ≤ a0))
      (gd [inB z17 256, inR z18] (.ok ⟨ej, ((z18, ()), ())⟩))
      (gd [inB z19 256, inR z20] (.ok ⟨ej, ((z20, ()), ())⟩)))))
theorem aiq (x : yB) (Q : gP.Y → Prop) : wpf te wv ax 1000 Try.f119 (gP.inp.inj x).tm (gP.inp.inj x).hp (fnK gP HA Q) (fun _ _ => False) = (vp (x.1.1)).wpR Q := by kernel_rfl
theorem Sf (pre : yB → Bool) (F : yB → OT gP.Y) (hF : ∀ (x : yB) oy, pre x = true → (F x).run = some oy → (vp (x.1.1)).run = some oy) : ab Try.prog 119 (gP.aK pre F) :=
  aD av tF Pa (f := 119) (fn := Try.f119) (c := ak Try.f119) (by kernel_rfl) (by kernel_rfl) (by kernel_rfl) (S := gP) (k := 0) (by kernel_rfl) (fun R hR => ae) (n := 1000) (sel := HA) (fun v o h => by cases h; rfl) (pre := pre) (F := F) (T := fun x => vp (x.1.1)) (fun x Q => aiq x Q) hF
def eV (x : UInt64) : Bool := (x == 16513537) || (x == 16521217)
theorem dw {x : UInt64} (h : eV x = true) : x = 16513537 ∨ x = 16521217 := by
  simpa [eV] using h
def yA (x : yB) : Bool := eV x.1.1
def V8 (_ : yB) : OT gP.Y := .ok ⟨ej, (((24 : Int), ()), ())⟩
theorem Oi : (vp 16513537).run = some ⟨ej, (((24 : Int), ()), ())⟩ ∧ (vp 16521217).run = some ⟨ej, (((24 : Int), ()), ())⟩ := ⟨by kernel_rfl, by kernel_rfl⟩
theorem afd : ab Try.prog 119 (gP.aK yA V8) := Sf _ _ fun x oy hp ho => by
  rw [← ho]
  clear ho
  obtain ⟨⟨x, ⟨⟩⟩, ⟨⟩⟩ := x
  rcases dw hp with h | h
  · have h : x = 16513537 := h
    subst h
    exact Oi.1
  · have h : x = 16521217 := h
    subst h
    exact Oi.2
def s8 : cI := (gP.aK yA V8)
theorem Oh : ab Try.prog 119 s8 := afd
theorem Og : aJ s8 := aA
def wx : Env := az 119 s8 wv
theorem tJ : aV Try.prog wx := ag Oh tF
theorem ww : aw wx := ac Og wu
theorem Pb : bg Try.prog te wx := aN follows av tJ ww
def ko : aq := ⟨[.val false .u64], [], true, 0, false⟩
abbrev Hz : Type := ((UInt64) × Unit) × (Unit)
def Kd : ay := ⟨[.val false .int], [], false⟩
def Oe : SV → Option ay := fun _ => some Kd
def Se (a0 : UInt64) : OT ko.Y :=
  (gd [yA ((a0, ()), ())] (.ok ⟨Kd, (((40 : Int), ()), ())⟩))
theorem amS (x : Hz) (Q : ko.Y → Prop) : wpf te wx ax 1000 Try.f117 (ko.inp.inj x).tm (ko.inp.inj x).hp (fnK ko Oe Q) (fun _ _ => False) = (Se (x.1.1)).wpR Q := by kernel_rfl
theorem Y6 (pre : Hz → Bool) (F : Hz → OT ko.Y) (hF : ∀ (x : Hz) oy, pre x = true → (F x).run = some oy → (Se (x.1.1)).run = some oy) : ab Try.prog 117 (ko.aK pre F) :=
  aD av tJ Pb (f := 117) (fn := Try.f117) (c := ak Try.f117) (by kernel_rfl) (by kernel_rfl) (by kernel_rfl) (S := ko) (k := 0) (by kernel_rfl) (fun R hR => ae) (n := 1000) (sel := Oe) (fun v o h => by cases h; rfl) (pre := pre) (F := F) (T := fun x => Se (x.1.1)) (fun x Q => amS x Q) hF
def D8 (x : Hz) : Bool := eV x.1.1
def afc (_ : Hz) : OT ko.Y := .ok ⟨Kd, (((40 : Int), ()), ())⟩
theorem aip : ab Try.prog 117 (ko.aK D8 afc) := Y6 _ _ fun x oy hp ho => by
  rw [← ho]
  clear ho
  obtain ⟨⟨x, ⟨⟩⟩, ⟨⟩⟩ := x
  have hp : eV x = true := hp
  refine (ai ?_).trans rfl
  simp only [List.all_cons, List.all_nil, Bool.and_true, Bool.and_eq_true]
  first | exact hp | exact ⟨hp, rfl⟩
def yw : cI := (ko.aK D8 afc)
theorem Sd : ab Try.prog 117 yw := aip
theorem Sc : aJ yw := aA
def tI : Env := az 117 yw wx
theorem mG : aV Try.prog tI := ag Sd tJ
theorem Aq : aw tI := ac Sc ww
theorem tH : bg Try.prog te tI := aN follows av mG Aq
def fB : aq := ⟨[.val false .u64, .val false .u64, .val false .u64], [], true, 0, false⟩
abbrev yC : Type := ((UInt64) × (UInt64) × (UInt64) × Unit) × (Unit)
def pH : Shape := ⟨135, [(2, .val false .u64), (8, .val false .u64), (9, .val false .u64), (10, .val false .u64), (11, .val false .u64), (13, .val false .u64), (14, .val false .u64), (15, .val false .u64), (16, .val false .u64)], [], 0, true⟩
abbrev cl : Type := ((UInt64) × (UInt64) × (UInt64) × (UInt64) × (UInt64) × (UInt64) × (UInt64) × (UInt64) × (UInt64) × Unit) × (Unit)
def kq : Shape := ⟨135, [(2, .val false .u64), (8, .val false .u64), (9, .val false .u64), (10, .val false .u64), (11, .val false .u64), (13, .val false .u64), (14, .val false .u64), (15, .val false .u64)], [], 0, true⟩
abbrev iG : Type := ((UInt64) × (UInt64) × (UInt64) × (UInt64) × (UInt64) × (UInt64) × (UInt64) × (UInt64) × Unit) × (Unit)
def On : SE → Option Shape := ku [(0, kq)] none
def afl (a2 : UInt64) (a8 : UInt64) (a9 : UInt64) (a10 : UInt64) (a11 : UInt64) (a13 : UInt64) (a14 : UInt64) (a15 : UInt64) (a16 : UInt64) : OT (Sum cl aO) :=
  let z0 : Bool := decide ((4294967296 : UInt64) ≤ a16 + a9)
  (.br (decide ((4294967296 : UInt64) ≤ a15))
  (.br (z0)
    (.ok (.inr ⟨(.exit 0, kq), ((a2, (a8, (a9, (a10, (a11, (a13, (a14, (a15 - (1 : UInt64), ())))))))), ())⟩))
    (.ok (.inl ((a2, (a8, (a9, (a10, (a11, (a13, (a14, (a15 - (1 : UInt64), (a16 + a9, ()))))))))), ()))))
  (.br (decide ((4294967296 : UInt64) * a16 + a13 < a15 * a10))
    (.br (z0)
      (.ok (.inr ⟨(.exit 0, kq), ((a2, (a8, (a9, (a10, (a11, (a13, (a14, (a15 - (1 : UInt64), ())))))))), ())⟩))
      (.ok (.inl ((a2, (a8, (a9, (a10, (a11, (a13, (a14, (a15 - (1 : UInt64), (a16 + a9, ()))))))))), ()))))
    (.ok (.inr ⟨(.exit 0, kq), ((a2, (a8, (a9, (a10, (a11, (a13, (a14, (a15, ())))))))), ())⟩))))
def vw (s : cl) : OT (Sum cl aO) := afl (s.1.1) (s.1.2.1) (s.1.2.2.1) (s.1.2.2.2.1) (s.1.2.2.2.2.1) (s.1.2.2.2.2.2.1) (s.1.2.2.2.2.2.2.1) (s.1.2.2.2.2.2.2.2.1) (s.1.2.2.2.2.2.2.2.2.1)
theorem afg (s : cl) (Q : Sum cl aO → Prop) : wps te tI ax 1000 (bG (ak Try.f113) 0) (pH.inj s) (cU pH On (Q : Sum pH.T aO → Prop)) = (vw s).wpR Q := by kernel_rfl
def vu (g0_0 : cl → iG) (s : cl) : OT aO := (.ok ⟨(.exit 0, kq), g0_0 s⟩)
def pG : Shape := ⟨135, [(2, .val false .u64), (8, .val false .u64), (9, .val false .u64), (10, .val false .u64), (14, .val false .u64), (15, .val false .u64), (16, .val false .u64), (17, .val false .u64), (18, .val false .u64)], [], 0, true⟩
abbrev ck : Type := ((UInt64) × (UInt64) × (UInt64) × (UInt64) × (UInt64) × (UInt64) × (UInt64) × (UInt64) × (UInt64) × Unit) × (Unit)
def kp : Shape := ⟨135, [(2, .val false .u64), (8, .val false .u64), (14, .val false .u64), (15, .val false .u64), (17, .val false .u64), (18, .val false .u64)], [], 0, true⟩
abbrev iF : Type := ((UInt64) × (UInt64) × (UInt64) × (UInt64) × (UInt64) × (UInt64) × Unit) × (Unit)
def Om : SE → Option Shape := ku [(2, kp)] none
def afk (a2 : UInt64) (a8 : UInt64) (a9 : UInt64) (a10 : UInt64) (a14 : UInt64) (a15 : UInt64) (a16 : UInt64) (a17 : UInt64) (a18 : UInt64) : OT (Sum ck aO) :=
  let z0 : Bool := decide ((4294967296 : UInt64) ≤ a16 + a9)
  (.br (decide ((4294967296 : UInt64) ≤ a18))
  (.br (z0)
    (.ok (.inr ⟨(.exit 2, kp), ((a2, (a8, (a14, (a15, (a17, (a18 - (1 : UInt64), ())))))), ())⟩))
    (.ok (.inl ((a2, (a8, (a9, (a10, (a14, (a15, (a16 + a9, (a17, (a18 - (1 : UInt64), ()))))))))), ()))))
  (.br (decide ((4294967296 : UInt64) * a16 + a14 < a18 * a10))
    (.br (z0)
      (.ok (.inr ⟨(.exit 2, kp), ((a2, (a8, (a14, (a15, (a17, (a18 - (1 : UInt64), ())))))), ())⟩))
      (.ok (.inl ((a2, (a8, (a9, (a10, (a14, (a15, (a16 + a9, (a17, (a18 - (1 : UInt64), ()))))))))), ()))))
    (.ok (.inr ⟨(.exit 2, kp), ((a2, (a8, (a14, (a15, (a17, (a18, ())))))), ())⟩))))
def vv (s : ck) : OT (Sum ck aO) := afk (s.1.1) (s.1.2.1) (s.1.2.2.1) (s.1.2.2.2.1) (s.1.2.2.2.2.1) (s.1.2.2.2.2.2.1) (s.1.2.2.2.2.2.2.1) (s.1.2.2.2.2.2.2.2.1) (s.1.2.2.2.2.2.2.2.2.1)
theorem aff (s : ck) (Q : Sum ck aO → Prop) : wps te tI ax 1000 (bG (ak Try.f113) 2) (pG.inj s) (cU pG Om (Q : Sum pG.T aO → Prop)) = (vv s).wpR Q := by kernel_rfl
def vt (g2_2 : ck → iF) (s : ck) : OT aO := (.ok ⟨(.exit 2, kp), g2_2 s⟩)
def mr : ay := ⟨[.val false .u64, .val false .u64], [], false⟩
def HB : SV → Option ay := fun _ => some mr
def Bc (ok0 : cl → Bool) (g0_0 : cl → iG) (ok2 : ck → Bool) (g2_2 : ck → iF) (a0 : UInt64) (a1 : UInt64) (a2 : UInt64) : OT fB.Y :=
  let z0 : Bool := !a2 == (0 : UInt64)
  let z1 : UInt64 := cD a2 (40 : Int)
  let z2 : UInt64 := bu z1 (32 : Int)
  let z3 : UInt64 := cD a0 (40 : Int) ||| bu a1 (24 : Int)
  let z4 : UInt64 := cD a1 (40 : Int)
  let z5 : UInt64 := z3 / z2
  let z6 : (UInt64 × UInt64 × UInt64 × UInt64 × UInt64 × UInt64 × UInt64 × UInt64 × UInt64 × PUnit) × PUnit := ((z1, (40 : UInt64), z2, z1 &&& (4294967295 : UInt64), z3, bu z4 (32 : Int), z4 &&& (4294967295 : UInt64), z5, z3 - z5 * z2, ()), ())
  let z7 := (g0_0 z6).fst
  let z8 := z7.snd
  let z9 := z8.snd
  let z10 := z9.fst
  let z11 := z7.fst
  let z12 := z9.snd
  let z13 := z12.snd
  let z14 := z13.snd
  let z15 := z14.snd
  let z16 := z15.snd.fst
  let z17 : UInt64 := z13.fst * (4294967296 : UInt64) + z14.fst - z16 * z11
  let z18 : UInt64 := z17 / z10
  let z19 : (UInt64 × UInt64 × UInt64 × UInt64 × UInt64 × UInt64 × UInt64 × UInt64 × UInt64 × PUnit) × PUnit := ((z11, z8.fst, z10, z12.fst, z15.fst, z16, z17 - z18 * z10, z17, z18, ()), ())
  let z20 := (g2_2 z19).fst
  let z21 := z20.snd
  let z22 := z21.snd
  let z23 := z22.snd
  let z24 := z23.snd
  let z25 := z24.snd.fst
  (.br (a2 == (0 : UInt64))
  .fail
  (.br (decide (a2 ≤ a0))
    .fail
    (.br (a0 == (0 : UInt64))
      (gd [z0, z0] (.ok ⟨mr, ((a1 / a2, (a1 % a2, ())), ())⟩))
      (gd [D8 ((a2, ()), ()), !z2 == (0 : UInt64), ok0 z6, !z10 == (0 : UInt64), ok2 z19] (.ok ⟨mr, ((z23.fst * (4294967296 : UInt64) + z25, (bu (z24.fst * (4294967296 : UInt64) + z22.fst - z25 * z20.fst) (↑(UInt64.toNat z21.fst) : Int), ())), ())⟩)))))
theorem air (ok0 : cl → Bool) (g0_0 : cl → iG) (ok2 : ck → Bool) (g2_2 : ck → iF) (x : yC) (Q : fB.Y → Prop) : wpf te tI (bp 2 (dv pG 2 ok2 (vt g2_2)) (bp 0 (dv pH 0 ok0 (vu g0_0)) ax)) 1000 Try.f113 (fB.inp.inj x).tm (fB.inp.inj x).hp (fnK fB HB Q) (fun _ _ => False) = (Bc ok0 g0_0 ok2 g2_2 (x.1.1) (x.1.2.1) (x.1.2.2.1)).wpR Q := by kernel_rfl
theorem Sl (ok0 : cl → Bool) (g0_0 : cl → iG) (ok2 : ck → Bool) (g2_2 : ck → iF) (h0 : ∀ s : cl, ok0 s = true → ∃ m e, au (vw) m s = some e ∧ (vu g0_0 s).run = some e) (h2 : ∀ s : ck, ok2 s = true → ∃ m e, au (vv) m s = some e ∧ (vt g2_2 s).run = some e) (pre : yC → Bool) (F : yC → OT fB.Y) (hF : ∀ (x : yC) oy, pre x = true → (F x).run = some oy → (Bc ok0 g0_0 ok2 g2_2 (x.1.1) (x.1.2.1) (x.1.2.2.1)).run = some oy) : ab Try.prog 113 (fB.aK pre F) :=
  aD av mG tH (f := 113) (fn := Try.f113) (c := ak Try.f113) (by kernel_rfl) (by kernel_rfl) (by kernel_rfl) (S := fB) (k := 0) (by kernel_rfl) (fun R hR => (aI (c := (ak Try.f113)) (by kernel_rfl) (id := 2) (by kernel_rfl) (bw av mG tH (sh := pG) hR (xs := Om) (aH (by kernel_rfl) (by kernel_rfl) hR) aW ae (n := 1000) (T := vv) (fun s Q => aff s Q) (ok := ok2) (f := vt g2_2) h2) (aI (c := (ak Try.f113)) (by kernel_rfl) (id := 0) (by kernel_rfl) (bw av mG tH (sh := pH) hR (xs := On) (aH (by kernel_rfl) (by kernel_rfl) hR) aW ae (n := 1000) (T := vw) (fun s Q => afg s Q) (ok := ok0) (f := vu g0_0) h0) ae))) (n := 1000) (sel := HB) (fun v o h => by cases h; rfl) (pre := pre) (F := F) (T := fun x => Bc ok0 g0_0 ok2 g2_2 (x.1.1) (x.1.2.1) (x.1.2.2.1)) (fun x Q => air ok0 g0_0 ok2 g2_2 x Q) hF
def HD (s : cl) : Bool := decide (s.1.2.2.2.1 = 0 ∧ s.1.2.2.2.2.2.2.2.1 < 4294967296)
def Ov (s : cl) : iG := ((s.1.1, s.1.2.1, s.1.2.2.1, s.1.2.2.2.1, s.1.2.2.2.2.1, s.1.2.2.2.2.2.1, s.1.2.2.2.2.2.2.1, s.1.2.2.2.2.2.2.2.1, ()), ())
theorem Cg {a b : UInt64} (h : b < a) : decide (a ≤ b) = false := decide_eq_false (by rw [UInt64.le_iff_toNat_le, UInt64.lt_iff_toNat_lt] at *; omega)
theorem not_lt_zero {a b : UInt64} : decide (a < b * 0) = false := decide_eq_false (by
  have : b * 0 = 0 := by rw [← UInt64.toNat_inj]; simp
  rw [this, UInt64.lt_iff_toNat_lt]
  exact Nat.not_lt_zero _)
theorem afj : ∀ s : cl, HD s = true → ∃ m e, au vw m s = some e ∧ (vu Ov s).run = some e := by
  rintro ⟨⟨a2, a8, a9, a10, a11, a13, a14, a15, a16, ⟨⟩⟩, ⟨⟩⟩ h
  have h' := of_decide_eq_true h
  dsimp only at h'
  obtain ⟨rfl, hl⟩ := h'
  exact ⟨1, _, aR ((OT.ap (Cg hl)).trans (OT.ap not_lt_zero)), rfl⟩
def HC (s : ck) : Bool := decide (s.1.2.2.2.1 = 0 ∧ s.1.2.2.2.2.2.2.2.2.1 < 4294967296)
def Ou (s : ck) : iF := ((s.1.1, s.1.2.1, s.1.2.2.2.2.1, s.1.2.2.2.2.2.1, s.1.2.2.2.2.2.2.2.1, s.1.2.2.2.2.2.2.2.2.1, ()), ())
theorem afi : ∀ s : ck, HC s = true → ∃ m e, au vv m s = some e ∧ (vt Ou s).run = some e := by
  rintro ⟨⟨a2, a8, a9, a10, a14, a15, a16, a17, a18, ⟨⟩⟩, ⟨⟩⟩ h
  have h' := of_decide_eq_true h
  dsimp only at h'
  obtain ⟨rfl, hl⟩ := h'
  exact ⟨1, _, aR ((OT.ap (Cg hl)).trans (OT.ap not_lt_zero)), rfl⟩
def rf (x : yC) : Bool := eV x.1.2.2.1 && decide (x.1.1 < x.1.2.2.1)
def Kj (x : yC) : OT fB.Y := .ok ⟨mr, ((ane x.1.1 x.1.2.1 x.1.2.2.1, NJ x.1.1 x.1.2.1 x.1.2.2.1, ()), ())⟩
theorem ZA {v z : Nat} (hv : v < 4294967296) (hz : z < 4294967296) : (v * 4294967296 % 2 ^ 64 + z) % 2 ^ 64 = (v * (256 * 16777216) + z) % 2 ^ 64 := by
  rw [Nat.mod_eq_of_lt (a := v * 4294967296) (by omega)]
theorem afI {s : Nat} (hs : s < 4294967296) : s * 4294967296 / 2 ^ 40 = s / 256 % 2 ^ 64 := by
  rw [Nat.mod_eq_of_lt (by omega), show (2 : Nat) ^ 40 = 256 * 4294967296 from rfl, Nat.mul_div_mul_right _ _ (by omega)]
theorem Oo {h l y : UInt64} {m : Nat} (hm : y.toNat = m) (hy : (cD y 40).toNat = m * 1099511627776) (hy1 : (bu (cD y 40) 32).toNat = m * 256) (hy0 : cD y 40 &&& 4294967295 = 0) (hm0 : 0 < m) (hm1 : m < 16777216) (hh : h.toNat < m) :
    let u := cD h 40 ||| bu l 24
    let q1 := u / bu (cD y 40) 32
    let un21 := u * 4294967296 + bu (cD l 40) 32 - q1 * cD y 40
    let q0 := un21 / bu (cD y 40) 32
    q1 < 4294967296 ∧ q0 < 4294967296 ∧ q1 * 4294967296 + q0 = ane h l y ∧ bu (un21 * 4294967296 + (cD l 40 &&& 4294967295) - q0 * cD y 40) 40 = NJ h l y := by
  intro u q1 un21 q0
  have hl := l.toNat_lt
  have hu : u.toNat = h.toNat * 1099511627776 + l.toNat / 16777216 := by
    have e1 : (cD h 40).toNat = h.toNat * 1099511627776 := by
      rw [show ((40 : Int)) = ((40 : Nat) : Int) from rfl, lp _ _ (by omega)]
      exact Nat.mod_eq_of_lt (by omega)
    have e2 : (bu l 24).toNat = l.toNat / 16777216 := fW l 24 (by omega)
    simp only [u]
    rw [UInt64.toNat_or, e1, e2, Nat.mul_comm]
    have := Nat.two_pow_add_eq_or_of_lt (i := 40) (b := l.toNat / 16777216) (by omega) h.toNat
    exact this.symm
  have hun1 : (bu (cD l 40) 32).toNat = l.toNat % 16777216 * 256 := by
    rw [show ((32 : Int)) = ((32 : Nat) : Int) from rfl, fW _ _ (by omega), show ((40 : Int)) = ((40 : Nat) : Int) from rfl, lp _ _ (by omega)]
    omega
  have hun0 : cD l 40 &&& 4294967295 = 0 := by
    rw [← UInt64.toNat_inj, ij, show ((40 : Int)) = ((40 : Nat) : Int) from rfl, lp _ _ (by omega)]
    show l.toNat * 2 ^ 40 % 2 ^ 64 % 4294967296 = 0
    omega
  have hq1 : q1.toNat = u.toNat / (m * 256) := by simp only [q1]; rw [UInt64.toNat_div, hy1]
  have hN : h.toNat * 18446744073709551616 + l.toNat = u.toNat * 16777216 + l.toNat % 16777216 := by rw [hu]; omega
  have hqr : u.toNat = q1.toNat * (m * 256) + u.toNat % (m * 256) := by
    rw [hq1, Nat.mul_comm]
    exact (Nat.div_add_mod _ _).symm
  have hr : u.toNat % (m * 256) < m * 256 := Nat.mod_lt _ (by omega)
  have hul : u.toNat < m * 256 * 4294967296 := by rw [hu]; omega
  have hq1l : q1.toNat < 4294967296 := by rw [hq1]; exact Nat.div_lt_of_lt_mul hul
  generalize hrr : u.toNat % (m * 256) = r at *
  have hprod : q1.toNat * (m * 1099511627776) = q1.toNat * (m * 256) * 4294967296 := by
    rw [Nat.mul_assoc, Nat.mul_assoc]
  have h21 : un21.toNat = r * 4294967296 + l.toNat % 16777216 * 256 := by
    simp only [un21]
    rw [UInt64.toNat_sub, UInt64.toNat_add, UInt64.toNat_mul, UInt64.toNat_mul, hun1, hy, hprod, show (4294967296 : UInt64).toNat = 4294967296 from rfl]
    generalize q1.toNat * (m * 256) = A at *
    omega
  have hq0 : q0.toNat = un21.toNat / (m * 256) := by simp only [q0]; rw [UInt64.toNat_div, hy1]
  have h21l : un21.toNat < m * 256 * 4294967296 := by rw [h21]; omega
  have hq0l : q0.toNat < 4294967296 := by rw [hq0]; exact Nat.div_lt_of_lt_mul h21l
  have hqr0 : un21.toNat = q0.toNat * (m * 256) + un21.toNat % (m * 256) := by
    rw [hq0, Nat.mul_comm]
    exact (Nat.div_add_mod _ _).symm
  have hr0 : un21.toNat % (m * 256) < m * 256 := Nat.mod_lt _ (by omega)
  obtain ⟨d1, d2⟩ := JS (K := 16777216) (L := 256) hm0 (by omega) hN hqr
  have e21 : (r * 16777216 + l.toNat % 16777216) * 256 = un21.toNat := by rw [h21]; omega
  rw [e21] at d1 d2
  refine ⟨by rw [UInt64.lt_iff_toNat_lt]; exact hq1l, by rw [UInt64.lt_iff_toNat_lt]; exact hq0l, ?_, ?_⟩
  · rw [← UInt64.toNat_inj, UInt64.toNat_add, UInt64.toNat_mul, show (4294967296 : UInt64).toNat = 4294967296 from rfl, hq0]
    unfold ane
    rw [hm, UInt64.toNat_ofNat', d1, ← hq0]
    exact ZA hq1l hq0l
  · have hprod0 : q0.toNat * (m * 1099511627776) = q0.toNat * (m * 256) * 4294967296 := by
      rw [Nat.mul_assoc, Nat.mul_assoc]
    have e3 : (un21 * 4294967296 + (cD l 40 &&& 4294967295) - q0 * cD y 40).toNat = (un21.toNat % (m * 256)) * 4294967296 := by
      rw [hun0, UInt64.toNat_sub, UInt64.toNat_add, UInt64.toNat_mul, UInt64.toNat_mul, hy, hprod0, show (4294967296 : UInt64).toNat = 4294967296 from rfl, show (0 : UInt64).toNat = 0 from rfl]
      generalize un21.toNat % (m * 256) = s at *
      generalize q0.toNat * (m * 256) = A at *
      omega
    rw [← UInt64.toNat_inj, show ((40 : Int)) = ((40 : Nat) : Int) from rfl, fW _ _ (by omega), show ((40 : Nat) : Int) = 40 from rfl, e3]
    unfold NJ
    rw [hm, UInt64.toNat_ofNat', d2]
    exact afI (by omega)
theorem Pu {y : UInt64} (h : eV y = true) : ∃ m, y.toNat = m ∧ (cD y 40).toNat = m * 1099511627776 ∧ (bu (cD y 40) 32).toNat = m * 256 ∧ cD y 40 &&& 4294967295 = 0 ∧ 0 < m ∧ m < 16777216 := by
  rcases dw h with rfl | rfl
  · exact ⟨16513537, rfl, by decide +kernel, by decide +kernel, by decide +kernel, by omega, by omega⟩
  · exact ⟨16521217, rfl, by decide +kernel, by decide +kernel, by decide +kernel, by omega, by omega⟩
theorem afh : ab Try.prog 113 (fB.aK rf Kj) := Sl HD Ov HC Ou afj afi _ _ fun x oy hp ho => by
  rw [← ho]
  clear ho
  obtain ⟨⟨h, l, y, ⟨⟩⟩, ⟨⟩⟩ := x
  have hp' : (eV y && decide (h < y)) = true := hp
  rw [Bool.and_eq_true] at hp'
  obtain ⟨hs, hlt⟩ := hp'
  have hlt := of_decide_eq_true hlt
  obtain ⟨m, f1, f2, f3, f4, f5, f6⟩ := Pu hs
  have hh : h.toNat < m := by rw [← f1]; exact UInt64.lt_iff_toNat_lt.1 hlt
  have hy0 : ¬ y = 0 := fun e => by rw [e] at f1; simp at f1; omega
  have hyb : (y == 0) = false := by simpa using hy0
  have hle : decide (y ≤ h) = false := Cg hlt
  unfold Bc
  refine (OT.ap hyb).trans ((OT.ap hle).trans ?_)
  by_cases h0 : h = 0
  · subst h0
    refine (OT.ao rfl).trans ((ai ?_).trans ?_)
    · simp only [hyb, List.all_cons, List.all_nil, Bool.and_true, Bool.not_false]
    · have e1 : ane 0 l y = l / y := by
        rw [← UInt64.toNat_inj]
        unfold ane
        rw [UInt64.toNat_ofNat', UInt64.toNat_div, show (0 : UInt64).toNat = 0 from rfl, Nat.zero_mul, Nat.zero_add]
        exact Nat.mod_eq_of_lt (Nat.lt_of_le_of_lt (Nat.div_le_self _ _) l.toNat_lt)
      have e2 : NJ 0 l y = l % y := by
        rw [← UInt64.toNat_inj]
        unfold NJ
        rw [UInt64.toNat_ofNat', UInt64.toNat_mod, show (0 : UInt64).toNat = 0 from rfl, Nat.zero_mul, Nat.zero_add]
        exact Nat.mod_eq_of_lt (Nat.lt_of_le_of_lt (Nat.mod_le _ _) l.toNat_lt)
      simp only [Kj, e1, e2]
  · have hb : (h == 0) = false := by simpa using h0
    obtain ⟨w1, w2, w3, w4⟩ := Oo (l := l) f1 f2 f3 f4 f5 f6 hh
    have hz : (!(bu (cD y 40) 32 == 0)) = true := by
      have : ¬ bu (cD y 40) 32 = 0 := fun e => by rw [e] at f3; simp at f3; omega
      simpa using this
    refine (OT.ap hb).trans ((ai ?_).trans ?_)
    · simp only [List.all_cons, List.all_nil, Bool.and_true, Bool.and_eq_true]
      exact ⟨hs, hz, decide_eq_true ⟨f4, w1⟩, hz, decide_eq_true ⟨f4, w2⟩⟩
    · show some (⟨mr, ((_, bu _ ((40 : UInt64).toNat : Int), ()), ())⟩ : fB.Y) = some ⟨mr, ((ane h l y, NJ h l y, ()), ())⟩
      rw [← w3, ← w4]
      rfl
def s9 : cI := (fB.aK rf Kj)
theorem Ot : ab Try.prog 113 s9 := afh
theorem Oq : aJ s9 := aA
def rC : Env := az 113 s9 tI
theorem nI : aV Try.prog rC := ag Ot mG
theorem wy : aw rC := ac Oq Aq
theorem Ar : bg Try.prog te rC := aN follows av nI wy
def ob : aq := ⟨[.val true .elem, .val true .elem], [], true, 0, false⟩
abbrev Wr : Type := ((aa) × (aa) × Unit) × (Unit)
def Bn : Shape := ⟨29, [(2, .ptr 0 0 0), (3, .ptr 1 0 0), (4, .ptr 2 0 0), (6, .ptr 3 0 0), (7, .val false .u64), (9, .val false .int)], [(0, .row .u64), (1, .row .u64), (2, .row .u64), (3, .row .u64)], 0, true⟩
abbrev cZ : Type := ((Unit) × (Unit) × (Unit) × (Unit) × (UInt64) × (Int) × Unit) × ((List (UInt64)) × (List (UInt64)) × (List (UInt64)) × (List (UInt64)) × Unit)
def tR : Shape := ⟨29, [(4, .ptr 0 0 0), (6, .ptr 1 0 0), (7, .val false .u64)], [(0, .row .u64), (1, .row .u64)], 0, true⟩
abbrev ln : Type := ((Unit) × (Unit) × (UInt64) × Unit) × ((List (UInt64)) × (List (UInt64)) × Unit)
def ZG : SE → Option Shape := ku [(0, tR)] none
def ajv (a7 : UInt64) (a9 : Int) (c0 : List (UInt64)) (c1 : List (UInt64)) (c2 : List (UInt64)) (c3 : List (UInt64)) : OT (Sum cZ aO) :=
  let z0 : Bool := inB a9 4
  let z1 : UInt64 := List.getD c0 (Int.toNat a9 + 0) (0 : UInt64)
  let z2 : UInt64 := List.getD c1 (Int.toNat a9 + 0) (0 : UInt64)
  (.br (decide (a9 < (4 : Int)))
  (gd [z0, decide (Int.toNat a9 + 0 < List.length c0), z0, decide (Int.toNat a9 + 0 < List.length c1), yD ((z1, z2, a7, ()), ()), z0, decide (Int.toNat a9 + 0 < List.length c3), inR (a9 + (1 : Int))] (.ok (.inl (((), ((), ((), ((), (tN z1 z2 a7, (a9 + (1 : Int), ())))))), (c0, (c1, (c2, (List.set c3 (Int.toNat a9 + 0) (rE z1 z2 a7), ()))))))))
  (.ok (.inr ⟨(.exit 0, tR), (((), ((), (a7, ()))), (c2, (c3, ())))⟩)))
def Bo (s : cZ) : OT (Sum cZ aO) := ajv (s.1.2.2.2.2.1) (s.1.2.2.2.2.2.1) (s.2.1) (s.2.2.1) (s.2.2.2.1) (s.2.2.2.2.1)
theorem ajs (s : cZ) (Q : Sum cZ aO → Prop) : wps te rC ax 1000 (bG (ak Try.f101) 0) (Bn.inj s) (cU Bn ZG (Q : Sum Bn.T aO → Prop)) = (Bo s).wpR Q := by kernel_rfl
def HZ (g0_0 : cZ → ln) (s : cZ) : OT aO := (.ok ⟨(.exit 0, tR), g0_0 s⟩)
def Pj : ay := ⟨[.val true .elem, .val false .bool], [], false⟩
def S9 : SV → Option ay := fun _ => some Pj
def ZJ (ok0 : cZ → Bool) (g0_0 : cZ → ln) (a0 : aa) (a1 : aa) : OT ob.Y :=
  let z0 : (PUnit × PUnit × PUnit × PUnit × UInt64 × Int × PUnit) × List UInt64 × List UInt64 × List UInt64 × List UInt64 × PUnit := (((), (), (), (), (0 : UInt64), (0 : Int), ()), [a0.w0, a0.w1, a0.w2, a0.w3], [a1.w0, a1.w1, a1.w2, a1.w3], [(0 : UInt64), (0 : UInt64), (0 : UInt64), (0 : UInt64)], [(0 : UInt64), (0 : UInt64), (0 : UInt64), (0 : UInt64)], ())
  let z1 : (PUnit × PUnit × UInt64 × PUnit) × List UInt64 × List UInt64 × PUnit := g0_0 z0
  let z2 := z1.snd
  let z3 := z2.snd.fst
  let z4 := z2.fst
  let z5 : List UInt64 := lay z4 z3 4 (0 : UInt64)
  (gd [ok0 z0, decide (4 ≤ List.length z3), decide ((4 / 1 : Nat) + 0 ≤ List.length z4), decide (4 ≤ List.length z5)] (.ok ⟨Pj, (({ w0 := List.getD z5 0 0, w1 := List.getD z5 1 0, w2 := List.getD z5 2 0, w3 := List.getD z5 3 0 }, (!z1.fst.snd.snd.fst == (0 : UInt64), ())), ())⟩))
theorem anm (ok0 : cZ → Bool) (g0_0 : cZ → ln) (x : Wr) (Q : ob.Y → Prop) : wpf te rC (bp 0 (dv Bn 0 ok0 (HZ g0_0)) ax) 1000 Try.f101 (ob.inp.inj x).tm (ob.inp.inj x).hp (fnK ob S9 Q) (fun _ _ => False) = (ZJ ok0 g0_0 (x.1.1) (x.1.2.1)).wpR Q := by kernel_rfl
theorem ZH (ok0 : cZ → Bool) (g0_0 : cZ → ln) (h0 : ∀ s : cZ, ok0 s = true → ∃ m e, au (Bo) m s = some e ∧ (HZ g0_0 s).run = some e) (pre : Wr → Bool) (F : Wr → OT ob.Y) (hF : ∀ (x : Wr) oy, pre x = true → (F x).run = some oy → (ZJ ok0 g0_0 (x.1.1) (x.1.2.1)).run = some oy) : ab Try.prog 101 (ob.aK pre F) :=
  aD av nI Ar (f := 101) (fn := Try.f101) (c := ak Try.f101) (by kernel_rfl) (by kernel_rfl) (by kernel_rfl) (S := ob) (k := 0) (by kernel_rfl) (fun R hR => (aI (c := (ak Try.f101)) (by kernel_rfl) (id := 0) (by kernel_rfl) (bw av nI Ar (sh := Bn) hR (xs := ZG) (aH (by kernel_rfl) (by kernel_rfl) hR) aW ae (n := 1000) (T := Bo) (fun s Q => ajs s Q) (ok := ok0) (f := HZ g0_0) h0) ae)) (n := 1000) (sel := S9) (fun v o h => by cases h; rfl) (pre := pre) (F := F) (T := fun x => ZJ ok0 g0_0 (x.1.1) (x.1.2.1)) (fun x Q => anm ok0 g0_0 x Q) hF
def FK (a b : List UInt64) (k : Nat) (s : List UInt64 × UInt64) : List UInt64 × UInt64 := (s.1.set k (rE (a.getD k 0) (b.getD k 0) s.2), tN (a.getD k 0) (b.getD k 0) s.2)
def Tb (s : cZ) : Bool := decide (s.1.2.2.2.2.1 = 0 ∧ s.1.2.2.2.2.2.1 = 0 ∧ s.2.1.length = 4 ∧ s.2.2.1.length = 4 ∧ s.2.2.2.2.1 = [0, 0, 0, 0])
def ZI (s : cZ) : ln := (((), (), (upto (FK s.2.1 s.2.2.1) ([0, 0, 0, 0], 0) 4).2, ()), (s.2.2.2.1, (upto (FK s.2.1 s.2.2.1) ([0, 0, 0, 0], 0) 4).1, ()))
theorem aju : ∀ s : cZ, Tb s = true → ∃ m e, au Bo m s = some e ∧ (HZ ZI s).run = some e := by
  rintro ⟨⟨⟨⟩, ⟨⟩, ⟨⟩, ⟨⟩, c, i, ⟨⟩⟩, ⟨c0, c1, c2, c3, ⟨⟩⟩⟩ h
  have h' := of_decide_eq_true h
  dsimp only at h'
  obtain ⟨rfl, rfl, h0, h1, rfl⟩ := h'
  have := (bF (T := Bo) (fun k s => ((((), (), (), (), s.2, (k : Int), ()), (c0, c1, c2, s.1, ())) : cZ)) (FK c0 c1)
    (fun s => (⟨(.exit 0, tR), (((), (), s.2, ()), (c2, s.1, ()))⟩ : aO)) 4 ([0, 0, 0, 0], 0) (fun _ s => s.1.length = 4 ∧ s.2.toNat ≤ 1) ⟨rfl, by decide⟩ (fun k s hk hs => ⟨?_, ?_⟩) (fun s hs => ?_)).1
  · obtain ⟨m, hm⟩ := this
    exact ⟨m, _, hm, rfl⟩
  · refine (OT.ao (decide_eq_true (by dsimp only; omega))).trans ((ai ?_).trans ?_)
    · simp only [Int.toNat_natCast, Nat.add_zero, h0, h1, hs.1, List.all_cons, List.all_nil, Bool.and_true, Bool.and_eq_true]
      exact ⟨bJ (by omega), decide_eq_true (by omega), bJ (by omega), decide_eq_true (by omega), decide_eq_true hs.2, bJ (by omega), decide_eq_true (by omega), bC (by omega)⟩
    · simp only [OT.jz, Int.toNat_natCast, Nat.add_zero]
      rfl
  · exact ⟨by simp only [FK, List.length_set]; exact hs.1, yG hs.2⟩
  · exact OT.ap (decide_eq_false (by dsimp only; omega))
theorem am2 (x y : List UInt64) (hx : x.length = 4) (hy : y.length = 4) : lay x y 4 0 = y := adu hx hy
def Ta (_ : Wr) : Bool := true
def ZK (x : Wr) : OT ob.Y := .ok ⟨Pj, (((tO x.1.1 x.1.2.1).1, ((tO x.1.1 x.1.2.1).2, ())), ())⟩
theorem ajt : ab Try.prog 101 (ob.aK Ta ZK) := ZH Tb ZI aju _ _ fun x oy hp ho => by
  rw [← ho]
  clear ho
  obtain ⟨⟨a, b, ⟨⟩⟩, ⟨⟩⟩ := x
  obtain ⟨_, hw⟩ := FL a b
  refine (ai ?_).trans ?_
  · simp only [List.all_cons, List.all_nil, Bool.and_true, Bool.and_eq_true]
    exact ⟨rfl, rfl, rfl, rfl⟩
  · simp only [ZK, hw]
    rfl
def Bm : cI := (ob.aK Ta ZK)
theorem Wq : ab Try.prog 101 Bm := ajt
theorem Wp : aJ Bm := aA
def HI : Env := az 101 Bm rC
theorem vA : aV Try.prog HI := ag Wq nI
theorem Ej : aw HI := ac Wp wy
theorem HH : bg Try.prog te HI := aN follows av vA Ej
def n8 : aq := ⟨[.val true .elem, .val true .elem], [], true, 0, false⟩
abbrev Wj : Type := ((aa) × (aa) × Unit) × (Unit)
def Bi : Shape := ⟨29, [(2, .ptr 0 0 0), (3, .ptr 1 0 0), (4, .ptr 2 0 0), (6, .ptr 3 0 0), (7, .val false .u64), (9, .val false .int)], [(0, .row .u64), (1, .row .u64), (2, .row .u64), (3, .row .u64)], 0, true⟩
abbrev cY : Type := ((Unit) × (Unit) × (Unit) × (Unit) × (UInt64) × (Int) × Unit) × ((List (UInt64)) × (List (UInt64)) × (List (UInt64)) × (List (UInt64)) × Unit)
def tP : Shape := ⟨29, [(4, .ptr 0 0 0), (6, .ptr 1 0 0), (7, .val false .u64)], [(0, .row .u64), (1, .row .u64)], 0, true⟩
abbrev lm : Type := ((Unit) × (Unit) × (UInt64) × Unit) × ((List (UInt64)) × (List (UInt64)) × Unit)
def Zu : SE → Option Shape := ku [(0, tP)] none
def ajp (a7 : UInt64) (a9 : Int) (c0 : List (UInt64)) (c1 : List (UInt64)) (c2 : List (UInt64)) (c3 : List (UInt64)) : OT (Sum cY aO) :=
  let z0 : Bool := inB a9 4
  let z1 : UInt64 := List.getD c0 (Int.toNat a9 + 0) (0 : UInt64)
  let z2 : UInt64 := List.getD c1 (Int.toNat a9 + 0) (0 : UInt64)
  (.br (decide (a9 < (4 : Int)))
  (gd [z0, decide (Int.toNat a9 + 0 < List.length c0), z0, decide (Int.toNat a9 + 0 < List.length c1), yr ((z1, z2, a7, ()), ()), z0, decide (Int.toNat a9 + 0 < List.length c3), inR (a9 + (1 : Int))] (.ok (.inl (((), ((), ((), ((), (KN z1 z2 a7, (a9 + (1 : Int), ())))))), (c0, (c1, (c2, (List.set c3 (Int.toNat a9 + 0) (mK z1 z2 a7), ()))))))))
  (.ok (.inr ⟨(.exit 0, tP), (((), ((), (a7, ()))), (c2, (c3, ())))⟩)))
def Bj (s : cY) : OT (Sum cY aO) := ajp (s.1.2.2.2.2.1) (s.1.2.2.2.2.2.1) (s.2.1) (s.2.2.1) (s.2.2.2.1) (s.2.2.2.2.1)
theorem ajm (s : cY) (Q : Sum cY aO → Prop) : wps te HI ax 1000 (bG (ak Try.f91) 0) (Bi.inj s) (cU Bi Zu (Q : Sum Bi.T aO → Prop)) = (Bj s).wpR Q := by kernel_rfl
def HX (g0_0 : cY → lm) (s : cY) : OT aO := (.ok ⟨(.exit 0, tP), g0_0 s⟩)
def Pe : ay := ⟨[.val true .elem, .val false .bool], [], false⟩
def SY : SV → Option ay := fun _ => some Pe
def Zx (ok0 : cY → Bool) (g0_0 : cY → lm) (a0 : aa) (a1 : aa) : OT n8.Y :=
  let z0 : (PUnit × PUnit × PUnit × PUnit × UInt64 × Int × PUnit) × List UInt64 × List UInt64 × List UInt64 × List UInt64 × PUnit := (((), (), (), (), (0 : UInt64), (0 : Int), ()), [a0.w0, a0.w1, a0.w2, a0.w3], [a1.w0, a1.w1, a1.w2, a1.w3], [(0 : UInt64), (0 : UInt64), (0 : UInt64), (0 : UInt64)], [(0 : UInt64), (0 : UInt64), (0 : UInt64), (0 : UInt64)], ())
  let z1 : (PUnit × PUnit × UInt64 × PUnit) × List UInt64 × List UInt64 × PUnit := g0_0 z0
  let z2 := z1.snd
  let z3 := z2.snd.fst
  let z4 := z2.fst
  let z5 : List UInt64 := lay z4 z3 4 (0 : UInt64)
  (gd [ok0 z0, decide (4 ≤ List.length z3), decide ((4 / 1 : Nat) + 0 ≤ List.length z4), decide (4 ≤ List.length z5)] (.ok ⟨Pe, (({ w0 := List.getD z5 0 0, w1 := List.getD z5 1 0, w2 := List.getD z5 2 0, w3 := List.getD z5 3 0 }, (!z1.fst.snd.snd.fst == (0 : UInt64), ())), ())⟩))
theorem anj (ok0 : cY → Bool) (g0_0 : cY → lm) (x : Wj) (Q : n8.Y → Prop) : wpf te HI (bp 0 (dv Bi 0 ok0 (HX g0_0)) ax) 1000 Try.f91 (n8.inp.inj x).tm (n8.inp.inj x).hp (fnK n8 SY Q) (fun _ _ => False) = (Zx ok0 g0_0 (x.1.1) (x.1.2.1)).wpR Q := by kernel_rfl
theorem Zv (ok0 : cY → Bool) (g0_0 : cY → lm) (h0 : ∀ s : cY, ok0 s = true → ∃ m e, au (Bj) m s = some e ∧ (HX g0_0 s).run = some e) (pre : Wj → Bool) (F : Wj → OT n8.Y) (hF : ∀ (x : Wj) oy, pre x = true → (F x).run = some oy → (Zx ok0 g0_0 (x.1.1) (x.1.2.1)).run = some oy) : ab Try.prog 91 (n8.aK pre F) :=
  aD av vA HH (f := 91) (fn := Try.f91) (c := ak Try.f91) (by kernel_rfl) (by kernel_rfl) (by kernel_rfl) (S := n8) (k := 0) (by kernel_rfl) (fun R hR => (aI (c := (ak Try.f91)) (by kernel_rfl) (id := 0) (by kernel_rfl) (bw av vA HH (sh := Bi) hR (xs := Zu) (aH (by kernel_rfl) (by kernel_rfl) hR) aW ae (n := 1000) (T := Bj) (fun s Q => ajm s Q) (ok := ok0) (f := HX g0_0) h0) ae)) (n := 1000) (sel := SY) (fun v o h => by cases h; rfl) (pre := pre) (F := F) (T := fun x => Zx ok0 g0_0 (x.1.1) (x.1.2.1)) (fun x Q => anj ok0 g0_0 x Q) hF
def Fs (a b : List UInt64) (k : Nat) (s : List UInt64 × UInt64) : List UInt64 × UInt64 := (s.1.set k (mK (a.getD k 0) (b.getD k 0) s.2), KN (a.getD k 0) (b.getD k 0) s.2)
def S1 (s : cY) : Bool := decide (s.1.2.2.2.2.1 = 0 ∧ s.1.2.2.2.2.2.1 = 0 ∧ s.2.1.length = 4 ∧ s.2.2.1.length = 4 ∧ s.2.2.2.2.1 = [0, 0, 0, 0])
def Zw (s : cY) : lm := (((), (), (upto (Fs s.2.1 s.2.2.1) ([0, 0, 0, 0], 0) 4).2, ()), (s.2.2.2.1, (upto (Fs s.2.1 s.2.2.1) ([0, 0, 0, 0], 0) 4).1, ()))
theorem ajo : ∀ s : cY, S1 s = true → ∃ m e, au Bj m s = some e ∧ (HX Zw s).run = some e := by
  rintro ⟨⟨⟨⟩, ⟨⟩, ⟨⟩, ⟨⟩, c, i, ⟨⟩⟩, ⟨c0, c1, c2, c3, ⟨⟩⟩⟩ h
  have h' := of_decide_eq_true h
  dsimp only at h'
  obtain ⟨rfl, rfl, h0, h1, rfl⟩ := h'
  have := (bF (T := Bj) (fun k s => ((((), (), (), (), s.2, (k : Int), ()), (c0, c1, c2, s.1, ())) : cY)) (Fs c0 c1)
    (fun s => (⟨(.exit 0, tP), (((), (), s.2, ()), (c2, s.1, ()))⟩ : aO)) 4 ([0, 0, 0, 0], 0) (fun _ s => s.1.length = 4 ∧ s.2.toNat ≤ 1) ⟨rfl, by decide⟩ (fun k s hk hs => ⟨?_, ?_⟩) (fun s hs => ?_)).1
  · obtain ⟨m, hm⟩ := this
    exact ⟨m, _, hm, rfl⟩
  · refine (OT.ao (decide_eq_true (by dsimp only; omega))).trans ((ai ?_).trans ?_)
    · simp only [Int.toNat_natCast, Nat.add_zero, h0, h1, hs.1, List.all_cons, List.all_nil, Bool.and_true, Bool.and_eq_true]
      exact ⟨bJ (by omega), decide_eq_true (by omega), bJ (by omega), decide_eq_true (by omega), decide_eq_true hs.2, bJ (by omega), decide_eq_true (by omega), bC (by omega)⟩
    · simp only [OT.jz, Int.toNat_natCast, Nat.add_zero]
      rfl
  · exact ⟨by simp only [Fs, List.length_set]; exact hs.1, wG⟩
  · exact OT.ap (decide_eq_false (by dsimp only; omega))
def SZ (_ : Wj) : Bool := true
def Zy (x : Wj) : OT n8.Y := .ok ⟨Pe, (((lb x.1.1 x.1.2.1).1, ((lb x.1.1 x.1.2.1).2, ())), ())⟩
theorem ajn : ab Try.prog 91 (n8.aK SZ Zy) := Zv S1 Zw ajo _ _ fun x oy hp ho => by
  rw [← ho]
  clear ho
  obtain ⟨⟨a, b, ⟨⟩⟩, ⟨⟩⟩ := x
  obtain ⟨_, hw⟩ := FN a b
  refine (ai ?_).trans ?_
  · simp only [List.all_cons, List.all_nil, Bool.and_true, Bool.and_eq_true]
    exact ⟨rfl, rfl, rfl, rfl⟩
  · simp only [Zy, hw]
    rfl
def Bh : cI := (n8.aK SZ Zy)
theorem Wi : ab Try.prog 91 Bh := ajn
theorem Wh : aJ Bh := aA
def OG : Env := az 91 Bh HI
theorem Ee : aV Try.prog OG := ag Wi vA
theorem Ef : aw OG := ac Wh Ej
theorem Zc : bg Try.prog te OG := aN follows av Ee Ef
def js : aq := ⟨[.val true .elem, .val true .elem], [], true, 0, false⟩
abbrev FM : Type := ((aa) × (aa) × Unit) × (Unit)
def HY : ay := ⟨[.val false .bool], [], false⟩
def KS : SV → Option ay := fun _ => some HY
def Ph (a0 : aa) (a1 : aa) : OT js.Y :=
  (.ok ⟨HY, (((lb a0 a1).snd, ()), ())⟩)
theorem ajq (x : FM) (Q : js.Y → Prop) : wpf te OG ax 1000 Try.f59 (js.inp.inj x).tm (js.inp.inj x).hp (fnK js KS Q) (fun _ _ => False) = (Ph (x.1.1) (x.1.2.1)).wpR Q := by kernel_rfl
theorem Wk (pre : FM → Bool) (F : FM → OT js.Y) (hF : ∀ (x : FM) oy, pre x = true → (F x).run = some oy → (Ph (x.1.1) (x.1.2.1)).run = some oy) : ab Try.prog 59 (js.aK pre F) :=
  aD av Ee Zc (f := 59) (fn := Try.f59) (c := ak Try.f59) (by kernel_rfl) (by kernel_rfl) (by kernel_rfl) (S := js) (k := 0) (by kernel_rfl) (fun R hR => ae) (n := 1000) (sel := KS) (fun v o h => by cases h; rfl) (pre := pre) (F := F) (T := fun x => Ph (x.1.1) (x.1.2.1)) (fun x Q => ajq x Q) hF
def KT (_ : FM) : Bool := true
def ZB (x : FM) : OT js.Y := .ok ⟨HY, ((Nat.blt x.1.1.nat x.1.2.1.nat, ()), ())⟩
theorem afK : ab Try.prog 59 (js.aK KT ZB) := Wk _ _ fun x oy _ ho => ho
def wE : cI := (js.aK KT ZB)
theorem Pg : ab Try.prog 59 wE := afK
theorem Pf : aJ wE := aA
def Eg : Env := az 59 wE OG
theorem yH : aV Try.prog Eg := ag Pg Ee
theorem zI : aw Eg := ac Pf Ef
theorem Sy : bg Try.prog te Eg := aN follows av yH zI
def nJ : aq := ⟨[.val true .elem, .val false .int], [], true, 0, false⟩
abbrev Wn : Type := ((aa) × (Int) × Unit) × (Unit)
def wF : ay := ⟨[.val false .bool], [], false⟩
def S6 : SV → Option ay := fun _ => some wF
def ZF (a0 : aa) (a1 : Int) : OT nJ.Y :=
  let z0 : Int := Int.tdiv a1 (64 : Int)
  let z1 : Int := Int.tmod a1 (64 : Int)
  (.br (decide ((0 : Int) ≤ a1))
  (.br (decide (a1 < (256 : Int)))
    (gd [true && inR z0, inB z0 4, decide (Int.toNat z0 + 0 < 4), decide ((0 : Int) ≤ z1)] (.ok ⟨wF, ((bu (List.getD [a0.w0, a0.w1, a0.w2, a0.w3] (Int.toNat z0 + 0) (0 : UInt64)) z1 &&& (1 : UInt64) == (1 : UInt64), ()), ())⟩))
    (.ok ⟨wF, ((false, ()), ())⟩))
  (.ok ⟨wF, ((false, ()), ())⟩))
theorem anl (x : Wn) (Q : nJ.Y → Prop) : wpf te Eg ax 1000 Try.f49 (nJ.inp.inj x).tm (nJ.inp.inj x).hp (fnK nJ S6 Q) (fun _ _ => False) = (ZF (x.1.1) (x.1.2.1)).wpR Q := by kernel_rfl
theorem ZE (pre : Wn → Bool) (F : Wn → OT nJ.Y) (hF : ∀ (x : Wn) oy, pre x = true → (F x).run = some oy → (ZF (x.1.1) (x.1.2.1)).run = some oy) : ab Try.prog 49 (nJ.aK pre F) :=
  aD av yH Sy (f := 49) (fn := Try.f49) (c := ak Try.f49) (by kernel_rfl) (by kernel_rfl) (by kernel_rfl) (S := nJ) (k := 0) (by kernel_rfl) (fun R hR => ae) (n := 1000) (sel := S6) (fun v o h => by cases h; rfl) (pre := pre) (F := F) (T := fun x => ZF (x.1.1) (x.1.2.1)) (fun x Q => anl x Q) hF
def AK (n i : Nat) : Bool := Nat.beq (n / 2 ^ i % 2) 1
theorem Sg (x : UInt64) : (x &&& 1 == 1) = Nat.beq (x.toNat % 2) 1 := by
  have e : (x &&& 1).toNat = x.toNat % 2 := by
    rw [UInt64.toNat_and]
    exact Nat.and_two_pow_sub_one_eq_mod x.toNat 1
  rw [← e]
  by_cases h : x &&& 1 = 1
  · rw [h]; rfl
  · have h' : ¬ (x &&& 1).toNat = 1 := fun h' => h (UInt64.toNat_inj.1 h')
    have h2 : Nat.beq (x &&& 1).toNat 1 = false := by
      cases hb : Nat.beq (x &&& 1).toNat 1
      · rfl
      · exact absurd (Nat.eq_of_beq_eq_true hb) h'
    rw [h2]
    simpa using h
def nZ (a : aa) (i : Int) : Bool := cond (decide (0 ≤ i)) (cond (decide (i < 256)) (AK a.nat i.toNat) false) false
def S7 (_ : Wn) : Bool := true
def aiy (x : Wn) : OT nJ.Y := .ok ⟨wF, ((nZ x.1.1 x.1.2.1, ()), ())⟩
theorem afe {a : aa} {i : Int} (h1 : 0 ≤ i) (h2 : i < 256) : (bu (List.getD [a.w0, a.w1, a.w2, a.w3] (Int.toNat (Int.tdiv i 64) + 0) 0) (Int.tmod i 64) &&& 1 == 1) = nZ a i := by
  obtain ⟨n, rfl⟩ : ∃ n : Nat, i = (n : Int) := ⟨i.toNat, by omega⟩
  have hn : n < 256 := by omega
  have t1 : Int.tdiv (n : Int) 64 = ((n / 64 : Nat) : Int) := by rw [Int.tdiv_eq_ediv_of_nonneg (by omega)]; omega
  have t2 : Int.tmod (n : Int) 64 = ((n % 64 : Nat) : Int) := by rw [Int.tmod_eq_emod_of_nonneg (by omega)]; omega
  rw [t1, t2, Sg, fW _ _ (by omega), Int.toNat_natCast, Nat.add_zero]
  have := V9 (a := a) (q := n / 64) (r := n % 64) (by omega) (by omega)
  rw [show 64 * (n / 64) + n % 64 = n by omega] at this
  unfold nZ AK
  rw [decide_eq_true h1, decide_eq_true h2, Int.toNat_natCast]
  simp only [cond_true]
  rw [← this]
  rfl
theorem ajr : ab Try.prog 49 (nJ.aK S7 aiy) := ZE _ _ fun x oy _ ho => by
  rw [← ho]
  clear ho
  obtain ⟨⟨a, i, ⟨⟩⟩, ⟨⟩⟩ := x
  show _ = (OT.ok ⟨wF, ((nZ a i, ()), ())⟩ : OT nJ.Y).run
  by_cases h1 : 0 ≤ i
  · refine (OT.ao (decide_eq_true h1)).trans ?_
    by_cases h2 : i < 256
    · refine (OT.ao (decide_eq_true h2)).trans ((ai ?_).trans ?_)
      · obtain ⟨n, rfl⟩ : ∃ n : Nat, i = (n : Int) := ⟨i.toNat, by omega⟩
        have t1 : Int.tdiv (n : Int) 64 = ((n / 64 : Nat) : Int) := by rw [Int.tdiv_eq_ediv_of_nonneg (by omega)]; omega
        have t2 : Int.tmod (n : Int) 64 = ((n % 64 : Nat) : Int) := by rw [Int.tmod_eq_emod_of_nonneg (by omega)]; omega
        simp only [t1, t2, Int.toNat_natCast, Nat.add_zero, List.all_cons, List.all_nil, Bool.and_true, Bool.and_eq_true, Bool.true_and]
        exact ⟨bC (by omega), bJ (by omega), decide_eq_true (by omega), decide_eq_true (by omega)⟩
      · simp only [afe h1 h2]
    · have e : nZ a i = false := by unfold nZ; rw [decide_eq_true h1, decide_eq_false h2]; rfl
      rw [e]
      exact OT.ap (decide_eq_false h2)
  · have e : nZ a i = false := by unfold nZ; rw [decide_eq_false h1]; rfl
    rw [e]
    exact OT.ap (decide_eq_false h1)
def Bk : cI := (nJ.aK S7 aiy)
theorem Wm : ab Try.prog 49 Bk := ajr
theorem Wl : aJ Bk := aA
def OH : Env := az 49 Bk Eg
theorem Eh : aV Try.prog OH := ag Wm yH
theorem Ei : aw OH := ac Wl zI
theorem Zd : bg Try.prog te OH := aN follows av Eh Ei
def Dp : aq := ⟨[.val false .int], [], true, 0, false⟩
abbrev am8 : Type := ((Int) × Unit) × (Unit)
def zD : ay := ⟨[.val true (.prod .elem (.prod .int (.prod .u64 (.prod .u64 .elem)))), .val false .int], [], false⟩
def adZ : SV → Option ay := fun _ => some zD
def amd (a0 : Int) : OT Dp.Y :=
  let z0 : aa := { w0 := 0, w1 := 0, w2 := 0, w3 := 0 }
  let z1 : UInt64 × aa := ((0 : UInt64), z0)
  (.br (a0 == (0 : Int))
  (.ok ⟨zD, ((({ w0 := 16513537, w1 := 0, w2 := 0, w3 := 0 }, (9 : Int), (16513537 : UInt64), z1), ((0 : Int), ())), ())⟩)
  (.br (a0 == (1 : Int))
    (.ok ⟨zD, ((({ w0 := 16521217, w1 := 0, w2 := 0, w3 := 0 }, (11 : Int), (16521217 : UInt64), z1), ((0 : Int), ())), ())⟩)
    (.br (a0 == (2 : Int))
      (.ok ⟨zD, ((({ w0 := 11037532056220336129, w1 := 2469829653914515739, w2 := 0, w3 := 4611686018427387904 }, (32 : Int), (0 : UInt64), (11037532056220336127 : UInt64), { w0 := 10122100416058490895, w1 := 15551789045973377255, w2 := 8617542898466512152, w3 := 679271340751763220 }), ((0 : Int), ())), ())⟩)
      (.br (a0 == (3 : Int))
        (.ok ⟨zD, ((({ w0 := 10108024940646105089, w1 := 2469829653919213789, w2 := 0, w3 := 4611686018427387904 }, (32 : Int), (0 : UInt64), (10108024940646105087 : UInt64), { w0 := 18200867980676431887, w1 := 7474641938123724515, w2 := 9200329640471491984, w3 := 679271340771891881 }), ((0 : Int), ())), ())⟩)
        (.ok ⟨zD, (((z0, (0 : Int), (0 : UInt64), z1), ((20 : Int), ())), ())⟩)))))
theorem apt (x : am8) (Q : Dp.Y → Prop) : wpf te OH ax 1000 Try.f78 (Dp.inp.inj x).tm (Dp.inp.inj x).hp (fnK Dp adZ Q) (fun _ _ => False) = (amd (x.1.1)).wpR Q := by kernel_rfl
theorem ahU (pre : am8 → Bool) (F : am8 → OT Dp.Y) (hF : ∀ (x : am8) oy, pre x = true → (F x).run = some oy → (amd (x.1.1)).run = some oy) : ab Try.prog 78 (Dp.aK pre F) :=
  aD av Eh Zd (f := 78) (fn := Try.f78) (c := ak Try.f78) (by kernel_rfl) (by kernel_rfl) (by kernel_rfl) (S := Dp) (k := 0) (by kernel_rfl) (fun R hR => ae) (n := 1000) (sel := adZ) (fun v o h => by cases h; rfl) (pre := pre) (F := F) (T := fun x => amd (x.1.1)) (fun x Q => apt x Q) hF
abbrev KQ : Type := aa × Int × UInt64 × UInt64 × aa
def anX : KQ := (⟨0, 0, 0, 0⟩, 0, 0, 0, ⟨0, 0, 0, 0⟩)
def bQ : Nat → KQ
  | 0 => (⟨16513537, 0, 0, 0⟩, 9, 16513537, 0, ⟨0, 0, 0, 0⟩)
  | 1 => (⟨16521217, 0, 0, 0⟩, 11, 16521217, 0, ⟨0, 0, 0, 0⟩)
  | 2 => (⟨11037532056220336129, 2469829653914515739, 0, 4611686018427387904⟩, 32, 0, 11037532056220336127, ⟨10122100416058490895, 15551789045973377255, 8617542898466512152, 679271340751763220⟩)
  | 3 => (⟨10108024940646105089, 2469829653919213789, 0, 4611686018427387904⟩, 32, 0, 10108024940646105087, ⟨18200867980676431887, 7474641938123724515, 9200329640471491984, 679271340771891881⟩)
  | _ => anX
def aj (s : Int) : Bool := decide (0 ≤ s) && decide (s < 4)
theorem cu {s : Int} (h : aj s = true) : s = 0 ∨ s = 1 ∨ s = 2 ∨ s = 3 := by
  simp only [aj, Bool.and_eq_true, decide_eq_true_eq] at h
  omega
theorem pZ {s : Int} (h : aj s = false) : (s == 0) = false ∧ (s == 1) = false ∧ (s == 2) = false ∧ (s == 3) = false := by
  have hn : ∀ k : Int, 0 ≤ k → k < 4 → (s == k) = false := fun k h0 h1 => by
    cases hb : s == k
    · rfl
    · have : s = k := by simpa using hb
      subst this
      simp only [aj, decide_eq_true h0, decide_eq_true h1, Bool.and_self] at h
      cases h
  exact ⟨hn 0 (by decide) (by decide), hn 1 (by decide) (by decide), hn 2 (by decide) (by decide), hn 3 (by decide) (by decide)⟩
def ad0 (_ : am8) : Bool := true
def aoq (x : am8) : OT Dp.Y := .br (aj x.1.1) (.ok ⟨zD, ((bQ x.1.1.toNat, ((0 : Int), ())), ())⟩) (.ok ⟨zD, ((anX, ((20 : Int), ())), ())⟩)
theorem aop : ab Try.prog 78 (Dp.aK ad0 aoq) := ahU _ _ fun x oy _ ho => by
  rw [← ho]
  clear ho
  obtain ⟨⟨s, ⟨⟩⟩, ⟨⟩⟩ := x
  cases hs : aj s
  · obtain ⟨h0, h1, h2, h3⟩ := pZ hs
    exact (OT.ap h0).trans ((OT.ap h1).trans ((OT.ap h2).trans ((OT.ap h3).trans (OT.ap (b := aj s) hs).symm)))
  · rcases cu hs with h | h | h | h
    all_goals
      have h : s = _ := h
      subst h
      rfl
def JF : cI := (Dp.aK ad0 aoq)
theorem ad1 : ab Try.prog 78 JF := aop
theorem adY : aJ JF := aA
def afC : Env := az 78 JF OH
theorem KF : aV Try.prog afC := ag ad1 Eh
theorem HO : aw afC := ac adY Ei
theorem afB : bg Try.prog te afC := aN follows av KF HO
def ph : aq := ⟨[.val false .int], [], true, 0, false⟩
abbrev Yf : Type := ((Int) × Unit) × (Unit)
def Dx : ay := ⟨[.val true .elem, .val false .int], [], false⟩
def Vs : SV → Option ay := fun _ => some Dx
def ad9 (a0 : Int) : OT ph.Y :=
  (.br (aj a0)
  (.ok ⟨Dx, (((bQ (Int.toNat a0)).fst, ((0 : Int), ())), ())⟩)
  (.ok ⟨Dx, (({ w0 := 0, w1 := 0, w2 := 0, w3 := 0 }, ((20 : Int), ())), ())⟩))
theorem aot (x : Yf) (Q : ph.Y → Prop) : wpf te afC ax 1000 Try.f58 (ph.inp.inj x).tm (ph.inp.inj x).hp (fnK ph Vs Q) (fun _ _ => False) = (ad9 (x.1.1)).wpR Q := by kernel_rfl
theorem ad8 (pre : Yf → Bool) (F : Yf → OT ph.Y) (hF : ∀ (x : Yf) oy, pre x = true → (F x).run = some oy → (ad9 (x.1.1)).run = some oy) : ab Try.prog 58 (ph.aK pre F) :=
  aD av KF afB (f := 58) (fn := Try.f58) (c := ak Try.f58) (by kernel_rfl) (by kernel_rfl) (by kernel_rfl) (S := ph) (k := 0) (by kernel_rfl) (fun R hR => ae) (n := 1000) (sel := Vs) (fun v o h => by cases h; rfl) (pre := pre) (F := F) (T := fun x => ad9 (x.1.1)) (fun x Q => aot x Q) hF
def Vt (_ : Yf) : Bool := true
def ai8 (x : Yf) : OT ph.Y := .br (aj x.1.1) (.ok ⟨Dx, (((bQ x.1.1.toNat).1, ((0 : Int), ())), ())⟩) (.ok ⟨Dx, ((⟨0, 0, 0, 0⟩, ((20 : Int), ())), ())⟩)
theorem amj : ab Try.prog 58 (ph.aK Vt ai8) := ad8 _ _ fun x oy _ ho => ho
def Dw : cI := (ph.aK Vt ai8)
theorem Ye : ab Try.prog 58 Dw := amj
theorem Yd : aJ Dw := aA
def EY : Env := az 58 Dw afC
theorem pR : aV Try.prog EY := ag Ye KF
theorem EX : aw EY := ac Yd HO
theorem y6 : bg Try.prog te EY := aN follows av pR EX
def mf : aq := ⟨[.val true (.prod .elem (.prod .int (.prod .u64 (.prod .u64 .elem)))), .val true .elem], [], true, 0, false⟩
abbrev X4 : Type := (((aa × (Int × (UInt64 × (UInt64 × aa))))) × (aa) × Unit) × (Unit)
def Di : Shape := ⟨53, [(2, .ptr 0 0 0), (3, .ptr 1 0 0), (4, .ptr 2 0 0), (5, .val false .u64), (6, .val false .int)], [(0, .cells [.val false .u64, .val false .u64, .val false .u64, .val false .u64, .val false .int, .val false .u64, .val false .u64, .val false .u64, .val false .u64, .val false .u64, .val false .u64]), (1, .row .u64), (2, .row .u64)], 0, true⟩
abbrev db : Type := ((Unit) × (Unit) × (Unit) × (UInt64) × (Int) × Unit) × (((UInt64) × (UInt64) × (UInt64) × (UInt64) × (Int) × (UInt64) × (UInt64) × (UInt64) × (UInt64) × (UInt64) × (UInt64) × Unit) × (List (UInt64)) × (List (UInt64)) × Unit)
def va : Shape := ⟨53, [(4, .ptr 0 0 0), (5, .val false .u64)], [(0, .row .u64)], 0, true⟩
abbrev me : Type := ((Unit) × (UInt64) × Unit) × ((List (UInt64)) × Unit)
def adW : SE → Option Shape := ku [(0, va)] none
def amb (a5 : UInt64) (a6 : Int) (c0_0 : UInt64) (c0_1 : UInt64) (c0_2 : UInt64) (c0_3 : UInt64) (c0_4 : Int) (c0_5 : UInt64) (c0_6 : UInt64) (c0_7 : UInt64) (c0_8 : UInt64) (c0_9 : UInt64) (c0_10 : UInt64) (c1 : List (UInt64)) (c2 : List (UInt64)) : OT (Sum db aO) :=
  let z0 : UInt64 := List.getD c1 (Int.toNat a6 + 0) (0 : UInt64)
  (.br (decide ((0 : Int) ≤ a6))
  (gd [inB a6 4, decide (Int.toNat a6 + 0 < List.length c1), rf ((a5, z0, c0_5, ()), ()), inR (a6 - (1 : Int))] (.ok (.inl (((), ((), ((), (NJ a5 z0 c0_5, (a6 - (1 : Int), ()))))), ((c0_0, (c0_1, (c0_2, (c0_3, (c0_4, (c0_5, (c0_6, (c0_7, (c0_8, (c0_9, (c0_10, ()))))))))))), (c1, (c2, ())))))))
  (.ok (.inr ⟨(.exit 0, va), (((), (a5, ())), (c2, ()))⟩)))
def Dl (s : db) : OT (Sum db aO) := amb (s.1.2.2.2.1) (s.1.2.2.2.2.1) (s.2.1.1) (s.2.1.2.1) (s.2.1.2.2.1) (s.2.1.2.2.2.1) (s.2.1.2.2.2.2.1) (s.2.1.2.2.2.2.2.1) (s.2.1.2.2.2.2.2.2.1) (s.2.1.2.2.2.2.2.2.2.1) (s.2.1.2.2.2.2.2.2.2.2.1) (s.2.1.2.2.2.2.2.2.2.2.2.1) (s.2.1.2.2.2.2.2.2.2.2.2.2.1) (s.2.2.1) (s.2.2.2.1)
theorem al6 (s : db) (Q : Sum db aO → Prop) : wps te EY ax 1000 (bG (ak Try.f98) 0) (Di.inj s) (cU Di adW (Q : Sum Di.T aO → Prop)) = (Dl s).wpR Q := by kernel_rfl
def JE (g0_0 : db → me) (s : db) : OT aO := (.ok ⟨(.exit 0, va), g0_0 s⟩)
def Dh : Shape := ⟨53, [(2, .ptr 0 0 0), (3, .ptr 1 0 0), (4, .ptr 2 0 0)], [(0, .cells [.val false .u64, .val false .u64, .val false .u64, .val false .u64, .val false .int, .val false .u64, .val false .u64, .val false .u64, .val false .u64, .val false .u64, .val false .u64]), (1, .row .u64), (2, .row .u64)], 0, true⟩
abbrev da : Type := ((Unit) × (Unit) × (Unit) × Unit) × (((UInt64) × (UInt64) × (UInt64) × (UInt64) × (Int) × (UInt64) × (UInt64) × (UInt64) × (UInt64) × (UInt64) × (UInt64) × Unit) × (List (UInt64)) × (List (UInt64)) × Unit)
def pd : Shape := ⟨53, [(4, .ptr 0 0 0)], [(0, .row .u64)], 0, true⟩
abbrev ma : Type := ((Unit) × Unit) × ((List (UInt64)) × Unit)
def adV : SE → Option Shape := ku [] (some pd)
def ama (c0_0 : UInt64) (c0_1 : UInt64) (c0_2 : UInt64) (c0_3 : UInt64) (c0_4 : Int) (c0_5 : UInt64) (c0_6 : UInt64) (c0_7 : UInt64) (c0_8 : UInt64) (c0_9 : UInt64) (c0_10 : UInt64) (c1 : List (UInt64)) (c2 : List (UInt64)) : OT (Sum da aO) :=
  let z0 : Nat := List.length c1
  let z1 : Bool := decide (4 ≤ z0)
  let z2 : aa × Bool := lb { w0 := List.getD c1 0 0, w1 := List.getD c1 1 0, w2 := List.getD c1 2 0, w3 := List.getD c1 3 0 } { w0 := c0_0, w1 := c0_1, w2 := c0_2, w3 := c0_3 }
  let z3 := z2.fst
  (gd [z1] (.br (z2.snd)
  (gd [z1, decide ((4 / 1 : Nat) + 0 ≤ List.length c2)] (.ok (.inr ⟨(.ret, pd), (((), ()), (lay c2 c1 4 (0 : UInt64), ()))⟩)))
  (gd [decide ((4 / 1 : Nat) + 0 ≤ z0)] (.ok (.inl (((), ((), ((), ()))), ((c0_0, (c0_1, (c0_2, (c0_3, (c0_4, (c0_5, (c0_6, (c0_7, (c0_8, (c0_9, (c0_10, ()))))))))))), (List.set (List.set (List.set (List.set c1 0 z3.w0) 1 z3.w1) 2 z3.w2) 3 z3.w3, (c2, ())))))))))
def Dk (s : da) : OT (Sum da aO) := ama (s.2.1.1) (s.2.1.2.1) (s.2.1.2.2.1) (s.2.1.2.2.2.1) (s.2.1.2.2.2.2.1) (s.2.1.2.2.2.2.2.1) (s.2.1.2.2.2.2.2.2.1) (s.2.1.2.2.2.2.2.2.2.1) (s.2.1.2.2.2.2.2.2.2.2.1) (s.2.1.2.2.2.2.2.2.2.2.2.1) (s.2.1.2.2.2.2.2.2.2.2.2.2.1) (s.2.2.1) (s.2.2.2.1)
theorem al5 (s : da) (Q : Sum da aO → Prop) : wps te EY ax 1000 (bG (ak Try.f98) 2) (Dh.inj s) (cU Dh adV (Q : Sum Dh.T aO → Prop)) = (Dk s).wpR Q := by kernel_rfl
def JD (g2_r : da → ma) (s : da) : OT aO := (.ok ⟨(.ret, pd), g2_r s⟩)
def nr : ay := ⟨[.val true .elem], [], false⟩
def Vl : SV → Option ay := fun _ => some nr
def Dm (ok0 : db → Bool) (g0_0 : db → me) (ok2 : da → Bool) (g2_r : da → ma) (a0 : (aa × (Int × (UInt64 × (UInt64 × aa))))) (a1 : aa) : OT mf.Y :=
  let z0 : Bool := !a0.snd.snd.fst == (0 : UInt64)
  let z1 : (UInt64 × UInt64 × UInt64 × UInt64 × Int × UInt64 × UInt64 × UInt64 × UInt64 × UInt64 × UInt64 × PUnit) × List UInt64 × List UInt64 × PUnit := ((a0.fst.w0, a0.fst.w1, a0.fst.w2, a0.fst.w3, a0.snd.fst, a0.snd.snd.fst, a0.snd.snd.snd.fst, a0.snd.snd.snd.snd.w0, a0.snd.snd.snd.snd.w1, a0.snd.snd.snd.snd.w2, a0.snd.snd.snd.snd.w3, ()), [a1.w0, a1.w1, a1.w2, a1.w3], [(0 : UInt64), (0 : UInt64), (0 : UInt64), (0 : UInt64)], ())
  let z2 : (PUnit × PUnit × PUnit × UInt64 × Int × PUnit) × (UInt64 × UInt64 × UInt64 × UInt64 × Int × UInt64 × UInt64 × UInt64 × UInt64 × UInt64 × UInt64 × PUnit) × List UInt64 × List UInt64 × PUnit := (((), (), (), (0 : UInt64), (3 : Int), ()), z1)
  let z3 : (PUnit × UInt64 × PUnit) × List UInt64 × PUnit := g0_0 z2
  let z4 := z3.snd.fst
  let z5 : List UInt64 := List.set (List.set (List.set (List.set z4 0 z3.fst.snd.fst) 1 (0 : UInt64)) 2 (0 : UInt64)) 3 (0 : UInt64)
  let z6 : (PUnit × PUnit × PUnit × PUnit) × (UInt64 × UInt64 × UInt64 × UInt64 × Int × UInt64 × UInt64 × UInt64 × UInt64 × UInt64 × UInt64 × PUnit) × List UInt64 × List UInt64 × PUnit := (((), (), (), ()), z1)
  let z7 := (g2_r z6).snd.fst
  (.br (z0)
  (.br (a1.w1 ||| a1.w2 ||| a1.w3 == (0 : UInt64))
    (gd [z0] (.ok ⟨nr, (({ w0 := a1.w0 % a0.snd.snd.fst, w1 := 0, w2 := 0, w3 := 0 }, ()), ())⟩))
    (gd [ok0 z2, decide ((4 / 1 : Nat) + 0 ≤ List.length z4), decide (4 ≤ List.length z5)] (.ok ⟨nr, (({ w0 := List.getD z5 0 0, w1 := List.getD z5 1 0, w2 := List.getD z5 2 0, w3 := List.getD z5 3 0 }, ()), ())⟩)))
  (gd [ok2 z6, decide (4 ≤ List.length z7)] (.ok ⟨nr, (({ w0 := List.getD z7 0 0, w1 := List.getD z7 1 0, w2 := List.getD z7 2 0, w3 := List.getD z7 3 0 }, ()), ())⟩)))
theorem aoo (ok0 : db → Bool) (g0_0 : db → me) (ok2 : da → Bool) (g2_r : da → ma) (x : X4) (Q : mf.Y → Prop) : wpf te EY (bp 2 (dv Dh 2 ok2 (JD g2_r)) (bp 0 (dv Di 0 ok0 (JE g0_0)) ax)) 1000 Try.f98 (mf.inp.inj x).tm (mf.inp.inj x).hp (fnK mf Vl Q) (fun _ _ => False) = (Dm ok0 g0_0 ok2 g2_r (x.1.1) (x.1.2.1)).wpR Q := by kernel_rfl
theorem adX (ok0 : db → Bool) (g0_0 : db → me) (ok2 : da → Bool) (g2_r : da → ma) (h0 : ∀ s : db, ok0 s = true → ∃ m e, au (Dl) m s = some e ∧ (JE g0_0 s).run = some e) (h2 : ∀ s : da, ok2 s = true → ∃ m e, au (Dk) m s = some e ∧ (JD g2_r s).run = some e) (pre : X4 → Bool) (F : X4 → OT mf.Y) (hF : ∀ (x : X4) oy, pre x = true → (F x).run = some oy → (Dm ok0 g0_0 ok2 g2_r (x.1.1) (x.1.2.1)).run = some oy) : ab Try.prog 98 (mf.aK pre F) :=
  aD av pR y6 (f := 98) (fn := Try.f98) (c := ak Try.f98) (by kernel_rfl) (by kernel_rfl) (by kernel_rfl) (S := mf) (k := 0) (by kernel_rfl) (fun R hR => (aI (c := (ak Try.f98)) (by kernel_rfl) (id := 2) (by kernel_rfl) (bw av pR y6 (sh := Dh) hR (xs := adV) (aH (by kernel_rfl) (by kernel_rfl) hR) aW ae (n := 1000) (T := Dk) (fun s Q => al5 s Q) (ok := ok2) (f := JD g2_r) h2) (aI (c := (ak Try.f98)) (by kernel_rfl) (id := 0) (by kernel_rfl) (bw av pR y6 (sh := Di) hR (xs := adW) (aH (by kernel_rfl) (by kernel_rfl) hR) aW ae (n := 1000) (T := Dl) (fun s Q => al6 s Q) (ok := ok0) (f := JE g0_0) h0) ae))) (n := 1000) (sel := Vl) (fun v o h => by cases h; rfl) (pre := pre) (F := F) (T := fun x => Dm ok0 g0_0 ok2 g2_r (x.1.1) (x.1.2.1)) (fun x Q => aoo ok0 g0_0 ok2 g2_r x Q) hF
def n5 (n : KQ) : Bool := decide (n = bQ 0) || (decide (n = bQ 1) || (decide (n = bQ 2) || decide (n = bQ 3)))
theorem sC {n : KQ} (h : n5 n = true) : n = bQ 0 ∨ n = bQ 1 ∨ n = bQ 2 ∨ n = bQ 3 := by
  simpa [n5] using h
theorem qC {s : Int} (h : aj s = true) : n5 (bQ s.toNat) = true := by
  rcases cu h with rfl | rfl | rfl | rfl <;> decide +kernel
def anH (c : List UInt64) (m : UInt64) : UInt64 := upto (fun k r => NJ r (c.getD (3 - k) 0) m) 0 4
theorem jy {m : UInt64} (h : eV m = true) : 0 < m.toNat := by
  rcases dw h with rfl | rfl <;> decide
theorem TY {a : aa} {m : UInt64} (h : eV m = true) : anH (lst a) m = UInt64.ofNat (a.nat % m.toNat) := by
  have hm := jy h
  rw [← UInt64.toNat_inj, UInt64.toNat_ofNat', Nat.mod_eq_of_lt (b := 2 ^ 64) (Nat.lt_trans (Nat.mod_lt _ hm) m.toNat_lt)]
  show (NJ (NJ (NJ (NJ 0 a.w3 m) a.w2 m) a.w1 m) a.w0 m).toNat = _
  rw [nw hm, nw hm, nw hm, nw hm, Je _ a.w2.toNat, Je _ a.w1.toNat, Je _ a.w0.toNat, show (0 : UInt64).toNat = 0 from rfl]
  congr 1
  unfold Sx.aa.nat
  omega
def u9 (s : db) : Bool := decide (s.1.2.2.2.1 = 0 ∧ s.1.2.2.2.2.1 = 3 ∧ s.2.2.1.length = 4) && eV s.2.1.2.2.2.2.2.1
def JC (s : db) : me := (((), anH s.2.2.1 s.2.1.2.2.2.2.2.1, ()), (s.2.2.2.1, ()))
theorem al9 : ∀ s : db, u9 s = true → ∃ m e, au Dl m s = some e ∧ (JE JC s).run = some e := by
  rintro ⟨⟨⟨⟩, ⟨⟩, ⟨⟩, r, i, ⟨⟩⟩, ⟨⟨x0, x1, x2, x3, x4, sm, x6, x7, x8, x9, x10, ⟨⟩⟩, c1, c2, ⟨⟩⟩⟩ h
  simp only [u9, Bool.and_eq_true, decide_eq_true_eq] at h
  obtain ⟨⟨rfl, rfl, hl⟩, hs⟩ := h
  have hm := jy hs
  have := (bF (T := Dl) (fun k r => ((((), (), (), r, 3 - (k : Int), ()), ((x0, x1, x2, x3, x4, sm, x6, x7, x8, x9, x10, ()), c1, c2, ())) : db)) (fun k r => NJ r (c1.getD (3 - k) 0) sm)
    (fun r => (⟨(.exit 0, va), (((), r, ()), (c2, ()))⟩ : aO)) 4 0 (fun _ r => r.toNat < sm.toNat) hm (fun k r hk hr => ⟨?_, ?_⟩) (fun r hr => ?_)).1
  · obtain ⟨m, hm⟩ := this
    exact ⟨m, _, hm, rfl⟩
  · have e1 : (3 - (k : Int)).toNat = 3 - k := by omega
    have e2 : (3 : Int) - (k : Int) - 1 = 3 - ((k + 1 : Nat) : Int) := by omega
    refine (OT.ao (decide_eq_true (by dsimp only; omega))).trans ((ai ?_).trans ?_)
    · simp only [e1, Nat.add_zero, hl, List.all_cons, List.all_nil, Bool.and_true, Bool.and_eq_true]
      refine ⟨bJ (by omega), decide_eq_true (by omega), ?_, bC (by omega)⟩
      simp only [rf, Bool.and_eq_true]
      exact ⟨hs, decide_eq_true (UInt64.lt_iff_toNat_lt.2 hr)⟩
    · simp only [OT.jz, e1, e2, Nat.add_zero]
  · rw [nw hm]
    exact Nat.mod_lt _ hm
  · exact OT.ap (decide_eq_false (by dsimp only; omega))
def apE (s : da) : aa := ⟨s.2.1.1, s.2.1.2.1, s.2.1.2.2.1, s.2.1.2.2.2.1⟩
def A7 (s : da) : Bool := decide (s.2.2.1.length = 4 ∧ s.2.2.2.1.length = 4 ∧ 0 < (apE s).nat)
def JB (s : da) : ma := (((), ()), (lst (ofN ((elemOf s.2.2.1).nat % (apE s).nat)), ()))
theorem X0 {x0 x1 x2 x3 x5 x6 x7 x8 x9 x10 : UInt64} {x4 : Int} {c2 : List UInt64} (hc : c2.length = 4) (hm : 0 < (aa.mk x0 x1 x2 x3).nat) : ∀ (n : Nat) (a : aa), a.nat = n →
    ∃ m, au Dk m (((), (), (), ()), ((x0, x1, x2, x3, x4, x5, x6, x7, x8, x9, x10, ()), lst a, c2, ())) = some ⟨(.ret, pd), (((), ()), (lst (ofN (a.nat % (aa.mk x0 x1 x2 x3).nat)), ()))⟩ := by
  intro n
  induction n using Nat.strongRecOn with
  | _ n ih =>
    intro a hn
    cases hb : Nat.blt a.nat (aa.mk x0 x1 x2 x3).nat
    · have hle : (aa.mk x0 x1 x2 x3).nat ≤ a.nat := by
        rcases Nat.lt_or_ge a.nat (aa.mk x0 x1 x2 x3).nat with h | h
        · have : Nat.blt a.nat (aa.mk x0 x1 x2 x3).nat = true := Nat.ble_eq_true_of_le h
          rw [this] at hb; cases hb
        · exact h
      have hd := mI hle
      obtain ⟨m, hm2⟩ := ih (a.nat - (aa.mk x0 x1 x2 x3).nat) (by omega) (lb a ⟨x0, x1, x2, x3⟩).1 hd
      rw [hd, ← Nat.mod_eq_sub_mod hle] at hm2
      refine ⟨m + 1, aM ?_ hm2⟩
      refine (ai ?_).trans ((OT.ap hb).trans ((ai ?_).trans rfl))
      · rfl
      · rfl
    · have hlt := cL hb
      rw [Nat.mod_eq_of_lt hlt, qB]
      refine ⟨1, aR ?_⟩
      refine (ai ?_).trans ((OT.ao hb).trans ((ai ?_).trans ?_))
      · rfl
      · simp only [hc, List.all_cons, List.all_nil, Bool.and_true, Bool.and_eq_true]
        exact ⟨rfl, rfl⟩
      · show some (Sum.inr (⟨(.ret, pd), (((), ()), (lay c2 (lst a) 4 0, ()))⟩ : aO)) = _
        rw [adu hc (cV a)]
theorem al8 : ∀ s : da, A7 s = true → ∃ m e, au Dk m s = some e ∧ (JD JB s).run = some e := by
  rintro ⟨⟨⟨⟩, ⟨⟩, ⟨⟩, ⟨⟩⟩, ⟨⟨x0, x1, x2, x3, x4, x5, x6, x7, x8, x9, x10, ⟨⟩⟩, c1, c2, ⟨⟩⟩⟩ h
  have h' := of_decide_eq_true h
  dsimp only [apE] at h'
  obtain ⟨h1, h2, h3⟩ := h'
  obtain ⟨m, hm⟩ := X0 (x4 := x4) (x5 := x5) (x6 := x6) (x7 := x7) (x8 := x8) (x9 := x9) (x10 := x10) h2 h3 _ (elemOf c1) rfl
  rw [bc h1] at hm
  exact ⟨m, _, hm, rfl⟩
def gF (x : X4) : Bool := n5 x.1.1
def ai4 (x : X4) : OT mf.Y := .ok ⟨nr, ((ofN (x.1.2.1.nat % x.1.1.1.nat), ()), ())⟩
theorem oK {n : Nat} (h : n < 18446744073709551616) : ofN n = ⟨UInt64.ofNat n, 0, 0, 0⟩ := by
  refine acG (k := 0) ?_
  rw [UInt64.toNat_ofNat', Nat.mod_eq_of_lt (by omega)]
  simp
theorem Dj {n : KQ} {a : aa} {m : UInt64} (h1 : n.1 = ⟨m, 0, 0, 0⟩) (h2 : n.2.2.1 = m) (hs : eV m = true) : (Dm u9 JC A7 JB n a).run = some ⟨nr, ((ofN (a.nat % n.1.nat), ()), ())⟩ := by
  have hm := jy hs
  have hn : n.1.nat = m.toNat := by rw [h1]; show m.toNat + _ * (0 + _ * (0 + _ * 0)) = _; omega
  have hz : (!(n.2.2.1 == 0)) = true := by
    rw [h2]
    rcases dw hs with rfl | rfl <;> rfl
  have hlt : a.nat % m.toNat < 18446744073709551616 := Nat.lt_trans (Nat.mod_lt _ hm) m.toNat_lt
  rw [hn, oK hlt]
  unfold Dm
  refine (OT.ao hz).trans ?_
  cases hb : (a.w1 ||| a.w2 ||| a.w3 == 0)
  · refine (OT.ap rfl).trans ((ai ?_).trans ?_)
    · simp only [List.all_cons, List.all_nil, Bool.and_true, Bool.and_eq_true]
      refine ⟨?_, rfl, rfl⟩
      show (decide _ && eV n.2.2.1) = true
      rw [h2, hs, Bool.and_true]
      exact decide_eq_true ⟨rfl, rfl, rfl⟩
    · show some (⟨nr, ((⟨anH (lst a) n.2.2.1, 0, 0, 0⟩, ()), ())⟩ : mf.Y) = _
      rw [h2, TY hs]
  · refine (OT.ao rfl).trans ((ai ?_).trans ?_)
    · simp only [hz, List.all_cons, List.all_nil, Bool.and_true]
    · have hw : a.w1 = 0 ∧ a.w2 = 0 ∧ a.w3 = 0 := by
        have : a.w1 ||| a.w2 ||| a.w3 = 0 := by simpa using hb
        simpa [UInt64.or_eq_zero_iff, and_assoc] using this
      have ha : a.nat = a.w0.toNat := by
        unfold Sx.aa.nat
        rw [hw.1, hw.2.1, hw.2.2]
        show _ + _ * (0 + _ * (0 + _ * 0)) = _
        omega
      show some (⟨nr, ((⟨a.w0 % n.2.2.1, 0, 0, 0⟩, ()), ())⟩ : mf.Y) = _
      have e : a.w0 % n.2.2.1 = UInt64.ofNat (a.nat % m.toNat) := by
        rw [h2, ha, ← UInt64.toNat_inj, UInt64.toNat_mod, UInt64.toNat_ofNat']
        exact (Nat.mod_eq_of_lt (by rw [← ha]; omega)).symm
      rw [e]
theorem G7 {n : KQ} {a : aa} (h2 : n.2.2.1 = 0) (hs : 0 < n.1.nat) : (Dm u9 JC A7 JB n a).run = some ⟨nr, ((ofN (a.nat % n.1.nat), ()), ())⟩ := by
  unfold Dm
  refine (OT.ap (by rw [h2]; rfl)).trans ((ai ?_).trans ?_)
  · simp only [List.all_cons, List.all_nil, Bool.and_true, Bool.and_eq_true]
    exact ⟨decide_eq_true ⟨rfl, rfl, hs⟩, rfl⟩
  · rfl
theorem ap0 : 0 < (bQ 2).1.nat := by decide +kernel
theorem apZ : 0 < (bQ 3).1.nat := by decide +kernel
theorem al7 : ab Try.prog 98 (mf.aK gF ai4) := adX u9 JC A7 JB al9 al8 _ _ fun x oy hp ho => by
  rw [← ho]
  clear ho
  obtain ⟨⟨n, a, ⟨⟩⟩, ⟨⟩⟩ := x
  have hp' : n5 n = true := hp
  rcases sC hp' with rfl | rfl | rfl | rfl
  · exact Dj (m := 16513537) rfl rfl rfl
  · exact Dj (m := 16521217) rfl rfl rfl
  · exact G7 rfl ap0
  · exact G7 rfl apZ
def Dg : cI := (mf.aK gF ai4)
theorem X3 : ab Try.prog 98 Dg := al7
theorem XZ : aJ Dg := aA
def OV : Env := az 98 Dg EY
theorem EP : aV Try.prog OV := ag X3 pR
theorem EQ : aw OV := ac XZ EX
theorem Zj : bg Try.prog te OV := aN follows av EP EQ
def ki : aq := ⟨[.val true (.prod .elem (.prod .int (.prod .u64 (.prod .u64 .elem)))), .val true .elem, .val true .elem], [], true, 0, false⟩
abbrev He : Type := (((aa × (Int × (UInt64 × (UInt64 × aa))))) × (aa) × (aa) × Unit) × (Unit)
def JN : ay := ⟨[.val true .elem], [], false⟩
def NB : SV → Option ay := fun _ => some JN
def RH (a0 : (aa × (Int × (UInt64 × (UInt64 × aa))))) (a1 : aa) (a2 : aa) : OT ki.Y :=
  let z0 : Nat := aa.nat a0.fst
  let z1 : aa := (tO (ofN (aa.nat a1 % z0)) (ofN (aa.nat a2 % z0))).fst
  (gd [gF ((a0, a1, ()), ()), gF ((a0, a2, ()), ()), gF ((a0, z1, ()), ())] (.ok ⟨JN, ((ofN (aa.nat z1 % z0), ()), ())⟩))
theorem ams (x : He) (Q : ki.Y → Prop) : wpf te OV ax 1000 Try.f79 (ki.inp.inj x).tm (ki.inp.inj x).hp (fnK ki NB Q) (fun _ _ => False) = (RH (x.1.1) (x.1.2.1) (x.1.2.2.1)).wpR Q := by kernel_rfl
theorem Yu (pre : He → Bool) (F : He → OT ki.Y) (hF : ∀ (x : He) oy, pre x = true → (F x).run = some oy → (RH (x.1.1) (x.1.2.1) (x.1.2.2.1)).run = some oy) : ab Try.prog 79 (ki.aK pre F) :=
  aD av EP Zj (f := 79) (fn := Try.f79) (c := ak Try.f79) (by kernel_rfl) (by kernel_rfl) (by kernel_rfl) (S := ki) (k := 0) (by kernel_rfl) (fun R hR => ae) (n := 1000) (sel := NB) (fun v o h => by cases h; rfl) (pre := pre) (F := F) (T := fun x => RH (x.1.1) (x.1.2.1) (x.1.2.2.1)) (fun x Q => ams x Q) hF
theorem uM {n : KQ} (h : n5 n = true) : 0 < n.1.nat ∧ n.1.nat < 57896044618658097711785492504343953926634992332820282019728792003956564819968 := by
  rcases sC h with rfl | rfl | rfl | rfl
  · exact ⟨by decide +kernel, by decide +kernel⟩
  · exact ⟨by decide +kernel, by decide +kernel⟩
  · exact ⟨by decide +kernel, by decide +kernel⟩
  · exact ⟨by decide +kernel, by decide +kernel⟩
def pS (s : Int) : Nat := (bQ s.toNat).1.nat
theorem fN {s : Int} (h : aj s = true) : 0 < pS s ∧ pS s < 57896044618658097711785492504343953926634992332820282019728792003956564819968 := uM (qC h)
def n0 (p : Nat) (a b : aa) : aa := ofN ((a.nat + b.nat) % p)
def Ck (p : Nat) (a : aa) : aa := ofN ((p - a.nat % p) % p)
def aQ (p : Nat) (a b : aa) : aa := ofN (a.nat * b.nat % p)
theorem cM {p n : Nat} (h : 0 < p ∧ p < 57896044618658097711785492504343953926634992332820282019728792003956564819968) : (ofN (n % p)).nat = n % p := by
  have := Nat.mod_lt n h.1
  exact gY (by omega)
theorem afv {p : Nat} (h : 0 < p ∧ p < 57896044618658097711785492504343953926634992332820282019728792003956564819968) (a b : aa) : ofN ((tO (ofN (a.nat % p)) (ofN (b.nat % p))).1.nat % p) = n0 p a b := by
  have ha := Nat.mod_lt a.nat h.1
  have hb := Nat.mod_lt b.nat h.1
  have e : (tO (ofN (a.nat % p)) (ofN (b.nat % p))).1.nat = a.nat % p + b.nat % p := by
    show (ofN _).nat = _
    rw [cM h, cM h]
    exact gY (by omega)
  unfold n0
  rw [e, ← Nat.add_mod]
def DL (x : He) : Bool := n5 x.1.1
def RI (x : He) : OT ki.Y := .ok ⟨JN, ((n0 x.1.1.1.nat x.1.2.1 x.1.2.2.1, ()), ())⟩
theorem ah1 : ab Try.prog 79 (ki.aK DL RI) := Yu _ _ fun x oy hp ho => by
  rw [← ho]
  clear ho
  obtain ⟨⟨n, a, b, ⟨⟩⟩, ⟨⟩⟩ := x
  have hp' : n5 n = true := hp
  refine (ai ?_).trans ?_
  · simp only [List.all_cons, List.all_nil, Bool.and_true, Bool.and_eq_true]
    exact ⟨hp', hp', hp'⟩
  · simp only [RI, afv (uM hp')]
def yh : cI := (ki.aK DL RI)
theorem RG : ab Try.prog 79 yh := ah1
theorem RF : aJ yh := aA
def E8 : Env := az 79 yh OV
theorem za : aV Try.prog E8 := ag RG EP
theorem Am : aw E8 := ac RF EQ
theorem SQ : bg Try.prog te E8 := aN follows av za Am
def kf : aq := ⟨[.val true (.prod .elem (.prod .int (.prod .u64 (.prod .u64 .elem)))), .val true .elem], [], true, 0, false⟩
abbrev G8 : Type := (((aa × (Int × (UInt64 × (UInt64 × aa))))) × (aa) × Unit) × (Unit)
def JG : ay := ⟨[.val true .elem], [], false⟩
def Nr : SV → Option ay := fun _ => some JG
def Rv (a0 : (aa × (Int × (UInt64 × (UInt64 × aa))))) (a1 : aa) : OT kf.Y :=
  let z0 : Nat := aa.nat a0.fst
  let z1 : aa := (lb a0.fst (ofN (aa.nat a1 % z0))).fst
  (gd [gF ((a0, a1, ()), ()), gF ((a0, z1, ()), ())] (.ok ⟨JG, ((ofN (aa.nat z1 % z0), ()), ())⟩))
theorem amf (x : G8) (Q : kf.Y → Prop) : wpf te E8 ax 1000 Try.f90 (kf.inp.inj x).tm (kf.inp.inj x).hp (fnK kf Nr Q) (fun _ _ => False) = (Rv (x.1.1) (x.1.2.1)).wpR Q := by kernel_rfl
theorem X8 (pre : G8 → Bool) (F : G8 → OT kf.Y) (hF : ∀ (x : G8) oy, pre x = true → (F x).run = some oy → (Rv (x.1.1) (x.1.2.1)).run = some oy) : ab Try.prog 90 (kf.aK pre F) :=
  aD av za SQ (f := 90) (fn := Try.f90) (c := ak Try.f90) (by kernel_rfl) (by kernel_rfl) (by kernel_rfl) (S := kf) (k := 0) (by kernel_rfl) (fun R hR => ae) (n := 1000) (sel := Nr) (fun v o h => by cases h; rfl) (pre := pre) (F := F) (T := fun x => Rv (x.1.1) (x.1.2.1)) (fun x Q => amf x Q) hF
theorem alI {m : aa} (h : 0 < m.nat ∧ m.nat < 57896044618658097711785492504343953926634992332820282019728792003956564819968) (a : aa) : ofN ((lb m (ofN (a.nat % m.nat))).1.nat % m.nat) = Ck m.nat a := by
  have ha := Nat.mod_lt a.nat h.1
  have e := cM (n := a.nat) h
  have e2 : (lb m (ofN (a.nat % m.nat))).1.nat = m.nat - a.nat % m.nat := by
    rw [mI (by rw [e]; omega), e]
  unfold Ck
  rw [e2]
def Ds (x : G8) : Bool := n5 x.1.1
def Rw (x : G8) : OT kf.Y := .ok ⟨JG, ((Ck x.1.1.1.nat x.1.2.1, ()), ())⟩
theorem ahV : ab Try.prog 90 (kf.aK Ds Rw) := X8 _ _ fun x oy hp ho => by
  rw [← ho]
  clear ho
  obtain ⟨⟨n, a, ⟨⟩⟩, ⟨⟩⟩ := x
  have hp' : n5 n = true := hp
  refine (ai ?_).trans ?_
  · simp only [List.all_cons, List.all_nil, Bool.and_true, Bool.and_eq_true]
    exact ⟨hp', hp'⟩
  · simp only [Rw, alI (uM hp')]
def ye : cI := (kf.aK Ds Rw)
theorem Ru : ab Try.prog 90 ye := ahV
theorem Rt : aJ ye := aA
def ET : Env := az 90 ye E8
theorem yZ : aV Try.prog ET := ag Ru za
theorem Aj : aw ET := ac Rt Am
theorem SO : bg Try.prog te ET := aN follows av yZ Aj
def pn : aq := ⟨[.val false .int, .val true .elem, .val true .elem], [], true, 0, false⟩
abbrev Yt : Type := ((Int) × (aa) × (aa) × Unit) × (Unit)
def DK : ay := ⟨[.val true .elem], [], false⟩
def VB : SV → Option ay := fun _ => some DK
def aek (a0 : Int) (a1 : aa) (a2 : aa) : OT pn.Y :=
  let z0 : aa × Int × UInt64 × UInt64 × aa := bQ (Int.toNat a0)
  (.br (aj a0)
  (gd [DL ((z0, a1, a2, ()), ())] (.ok ⟨DK, ((n0 (aa.nat z0.fst) a1 a2, ()), ())⟩))
  (.ok ⟨DK, (({ w0 := 0, w1 := 0, w2 := 0, w3 := 0 }, ()), ())⟩))
theorem aow (x : Yt) (Q : pn.Y → Prop) : wpf te ET ax 1000 Try.f47 (pn.inp.inj x).tm (pn.inp.inj x).hp (fnK pn VB Q) (fun _ _ => False) = (aek (x.1.1) (x.1.2.1) (x.1.2.2.1)).wpR Q := by kernel_rfl
theorem aej (pre : Yt → Bool) (F : Yt → OT pn.Y) (hF : ∀ (x : Yt) oy, pre x = true → (F x).run = some oy → (aek (x.1.1) (x.1.2.1) (x.1.2.2.1)).run = some oy) : ab Try.prog 47 (pn.aK pre F) :=
  aD av yZ SO (f := 47) (fn := Try.f47) (c := ak Try.f47) (by kernel_rfl) (by kernel_rfl) (by kernel_rfl) (S := pn) (k := 0) (by kernel_rfl) (fun R hR => ae) (n := 1000) (sel := VB) (fun v o h => by cases h; rfl) (pre := pre) (F := F) (T := fun x => aek (x.1.1) (x.1.2.1) (x.1.2.2.1)) (fun x Q => aow x Q) hF
def VC (_ : Yt) : Bool := true
def ajb (x : Yt) : OT pn.Y := .br (aj x.1.1) (.ok ⟨DK, ((n0 (pS x.1.1) x.1.2.1 x.1.2.2.1, ()), ())⟩) (.ok ⟨DK, ((⟨0, 0, 0, 0⟩, ()), ())⟩)
theorem amr : ab Try.prog 47 (pn.aK VC ajb) := aej _ _ fun x oy hp ho => by
  rw [← ho]
  clear ho
  obtain ⟨⟨s, a, b, ⟨⟩⟩, ⟨⟩⟩ := x
  cases hs : aj s
  · exact (OT.ap hs).trans (OT.ap (b := aj s) hs).symm
  · refine (OT.ao hs).trans ((ai ?_).trans (OT.ao (b := aj s) hs).symm)
    simp only [List.all_cons, List.all_nil, Bool.and_true]
    exact qC hs
def DJ : cI := (pn.aK VC ajb)
theorem Ys : ab Try.prog 47 DJ := amr
theorem Yr : aJ DJ := aA
def O0 : Env := az 47 DJ ET
theorem E6 : aV Try.prog O0 := ag Ys yZ
theorem E7 : aw O0 := ac Yr Aj
theorem Zo : bg Try.prog te O0 := aN follows av E6 E7
def pe : aq := ⟨[.val false .int, .val true .elem], [], true, 0, false⟩
abbrev X7 : Type := ((Int) × (aa) × Unit) × (Unit)
def Dr : ay := ⟨[.val true .elem], [], false⟩
def Vo : SV → Option ay := fun _ => some Dr
def ad3 (a0 : Int) (a1 : aa) : OT pe.Y :=
  let z0 : aa × Int × UInt64 × UInt64 × aa := bQ (Int.toNat a0)
  (.br (aj a0)
  (gd [Ds ((z0, a1, ()), ())] (.ok ⟨Dr, ((Ck (aa.nat z0.fst) a1, ()), ())⟩))
  (.ok ⟨Dr, (({ w0 := 0, w1 := 0, w2 := 0, w3 := 0 }, ()), ())⟩))
theorem aor (x : X7) (Q : pe.Y → Prop) : wpf te O0 ax 1000 Try.f56 (pe.inp.inj x).tm (pe.inp.inj x).hp (fnK pe Vo Q) (fun _ _ => False) = (ad3 (x.1.1) (x.1.2.1)).wpR Q := by kernel_rfl
theorem ad2 (pre : X7 → Bool) (F : X7 → OT pe.Y) (hF : ∀ (x : X7) oy, pre x = true → (F x).run = some oy → (ad3 (x.1.1) (x.1.2.1)).run = some oy) : ab Try.prog 56 (pe.aK pre F) :=
  aD av E6 Zo (f := 56) (fn := Try.f56) (c := ak Try.f56) (by kernel_rfl) (by kernel_rfl) (by kernel_rfl) (S := pe) (k := 0) (by kernel_rfl) (fun R hR => ae) (n := 1000) (sel := Vo) (fun v o h => by cases h; rfl) (pre := pre) (F := F) (T := fun x => ad3 (x.1.1) (x.1.2.1)) (fun x Q => aor x Q) hF
def Vp (_ : X7) : Bool := true
def ai5 (x : X7) : OT pe.Y := .br (aj x.1.1) (.ok ⟨Dr, ((Ck (pS x.1.1) x.1.2.1, ()), ())⟩) (.ok ⟨Dr, ((⟨0, 0, 0, 0⟩, ()), ())⟩)
theorem ame : ab Try.prog 56 (pe.aK Vp ai5) := ad2 _ _ fun x oy hp ho => by
  rw [← ho]
  clear ho
  obtain ⟨⟨s, a, ⟨⟩⟩, ⟨⟩⟩ := x
  cases hs : aj s
  · exact (OT.ap hs).trans (OT.ap (b := aj s) hs).symm
  · refine (OT.ao hs).trans ((ai ?_).trans (OT.ao (b := aj s) hs).symm)
    simp only [List.all_cons, List.all_nil, Bool.and_true]
    exact qC hs
def Dq : cI := (pe.aK Vp ai5)
theorem X6 : ab Try.prog 56 Dq := ame
theorem X5 : aJ Dq := aA
def OW : Env := az 56 Dq O0
theorem ER : aV Try.prog OW := ag X6 E6
theorem ES : aw OW := ac X5 E7
theorem Zk : bg Try.prog te OW := aN follows av ER ES
def o8 : aq := ⟨[.val false .int, .val true .elem, .val true .elem], [], true, 0, false⟩
abbrev XV : Type := ((Int) × (aa) × (aa) × Unit) × (Unit)
def sS : ay := ⟨[.val true .elem], [], false⟩
def Vh : SV → Option ay := fun _ => some sS
def adT (a0 : Int) (a1 : aa) (a2 : aa) : OT o8.Y :=
  let z0 : Bool := aj a0
  let z1 : Nat := pS a0
  let z2 : aa := { w0 := 0, w1 := 0, w2 := 0, w3 := 0 }
  (.br (z0)
  (.br (z0)
    (.ok ⟨sS, ((n0 z1 a1 (Ck z1 a2), ()), ())⟩)
    (.ok ⟨sS, ((z2, ()), ())⟩))
  (.br (z0)
    (.ok ⟨sS, ((n0 z1 a1 z2, ()), ())⟩)
    (.ok ⟨sS, ((z2, ()), ())⟩)))
theorem aon (x : XV) (Q : o8.Y → Prop) : wpf te OW ax 1000 Try.f20 (o8.inp.inj x).tm (o8.inp.inj x).hp (fnK o8 Vh Q) (fun _ _ => False) = (adT (x.1.1) (x.1.2.1) (x.1.2.2.1)).wpR Q := by kernel_rfl
theorem adS (pre : XV → Bool) (F : XV → OT o8.Y) (hF : ∀ (x : XV) oy, pre x = true → (F x).run = some oy → (adT (x.1.1) (x.1.2.1) (x.1.2.2.1)).run = some oy) : ab Try.prog 20 (o8.aK pre F) :=
  aD av ER Zk (f := 20) (fn := Try.f20) (c := ak Try.f20) (by kernel_rfl) (by kernel_rfl) (by kernel_rfl) (S := o8) (k := 0) (by kernel_rfl) (fun R hR => ae) (n := 1000) (sel := Vh) (fun v o h => by cases h; rfl) (pre := pre) (F := F) (T := fun x => adT (x.1.1) (x.1.2.1) (x.1.2.2.1)) (fun x Q => aon x Q) hF
def eZ (p : Nat) (a b : aa) : aa := n0 p a (Ck p b)
def Vi (_ : XV) : Bool := true
def ai3 (x : XV) : OT o8.Y := .br (aj x.1.1) (.ok ⟨sS, ((eZ (pS x.1.1) x.1.2.1 x.1.2.2.1, ()), ())⟩) (.ok ⟨sS, ((⟨0, 0, 0, 0⟩, ()), ())⟩)
theorem al3 : ab Try.prog 20 (o8.aK Vi ai3) := adS _ _ fun x oy hp ho => by
  rw [← ho]
  clear ho
  obtain ⟨⟨s, a, b, ⟨⟩⟩, ⟨⟩⟩ := x
  cases hs : aj s
  · exact (OT.ap hs).trans ((OT.ap hs).trans (OT.ap (b := aj s) hs).symm)
  · exact (OT.ao hs).trans ((OT.ao hs).trans (OT.ao (b := aj s) hs).symm)
def Dd : cI := (o8.aK Vi ai3)
theorem XU : ab Try.prog 20 Dd := al3
theorem XT : aJ Dd := aA
def HN : Env := az 20 Dd OW
theorem v8 : aV Try.prog HN := ag XU ER
theorem EN : aw HN := ac XT ES
theorem HM : bg Try.prog te HN := aN follows av v8 EN
end Go.Proofs.Ytkedomfjjahjnaa

namespace Go.Proofs.Ytkedomfjjahjnaa
open Sx Go
def l6 (n : Nat) : List UInt64 := [UInt64.ofNat n, UInt64.ofNat (n / 18446744073709551616), UInt64.ofNat (n / 18446744073709551616 / 18446744073709551616), UInt64.ofNat (n / 18446744073709551616 / 18446744073709551616 / 18446744073709551616),
  UInt64.ofNat (n / 18446744073709551616 / 18446744073709551616 / 18446744073709551616 / 18446744073709551616), UInt64.ofNat (n / 18446744073709551616 / 18446744073709551616 / 18446744073709551616 / 18446744073709551616 / 18446744073709551616)]
def v6 (l : List UInt64) : Nat := (l.getD 0 0).toNat + 18446744073709551616 * ((l.getD 1 0).toNat + 18446744073709551616 * ((l.getD 2 0).toNat + 18446744073709551616 * ((l.getD 3 0).toNat + 18446744073709551616 * ((l.getD 4 0).toNat + 18446744073709551616 * (l.getD 5 0).toNat))))
theorem fP {m : Nat} {x : UInt64} (hm : m % 18446744073709551616 = x.toNat) : UInt64.ofNat m = x := by
  rw [← UInt64.toNat_inj, UInt64.toNat_ofNat']
  exact hm
theorem apq {n : Nat} {a b c d e : UInt64} {k : Nat} {f : UInt64} (h : n = a.toNat + 18446744073709551616 * (b.toNat + 18446744073709551616 * (c.toNat + 18446744073709551616 * (d.toNat + 18446744073709551616 * (e.toNat + 18446744073709551616 * k))))) (hf : k % 18446744073709551616 = f.toNat) : l6 n = [a, b, c, d, e, f] := by
  obtain ⟨h1, h0⟩ := div_eq a.toNat_lt h
  obtain ⟨h2, h3⟩ := div_eq b.toNat_lt h1
  obtain ⟨h4, h5⟩ := div_eq c.toNat_lt h2
  obtain ⟨h6, h7⟩ := div_eq d.toNat_lt h4
  obtain ⟨h8, h9⟩ := div_eq e.toNat_lt h6
  unfold l6
  rw [fP (x := a) h0, fP (x := b) h3, fP (x := c) h5, fP (x := d) h7, fP (x := e) h9, fP (x := f) (by rw [h8]; exact hf)]
theorem adx (n : Nat) : (l6 n).length = 6 := rfl
def anh (t a x c : UInt64) : UInt64 := rE t (rE (a * x) c 0) 0
def wB (t a x c : UInt64) : UInt64 := afF a x + tN (a * x) c 0 + tN t (rE (a * x) c 0) 0
theorem amX {t P p h c l k1 r k2 W : Nat} (hP : P = p + W * h) (h1 : p + c = l + W * k1) (h2 : t + l = r + W * k2) : t + P + c = r + W * (h + k1 + k2) := by
  rw [Nat.mul_add, Nat.mul_add]
  omega
theorem afx {t P c r q W : Nat} (hW : 0 < W) (ht : t ≤ W - 1) (hc : c ≤ W - 1) (hP : P ≤ (W - 1) * (W - 1)) (h : t + P + c = r + W * q) : q < W := by
  obtain ⟨V, rfl⟩ : ∃ V, W = V + 1 := ⟨W - 1, by omega⟩
  rw [Nat.add_sub_cancel] at *
  refine Nat.lt_of_not_le fun hq => ?_
  have h1 : (V + 1) * (V + 1) ≤ (V + 1) * q := Nat.mul_le_mul_left _ hq
  have h2 : (V + 1) * (V + 1) = V * V + V + V + 1 := by rw [Nat.add_mul, Nat.mul_add, Nat.one_mul, Nat.mul_one]; omega
  omega
theorem ahk (a x : UInt64) : (afF a x).toNat = a.toNat * x.toNat / 18446744073709551616 := by
  have ha := a.toNat_lt
  have hx := x.toNat_lt
  have : a.toNat * x.toNat / 18446744073709551616 < 18446744073709551616 := by
    rw [Nat.div_lt_iff_lt_mul (by omega)]
    exact Nat.mul_lt_mul'' ha hx
  unfold afF
  rw [UInt64.toNat_ofNat', Nat.mod_eq_of_lt this]
theorem Be (t a x c : UInt64) : t.toNat + a.toNat * x.toNat + c.toNat = (anh t a x c).toNat + 18446744073709551616 * (wB t a x c).toNat := by
  have hP : a.toNat * x.toNat = (a * x).toNat + 18446744073709551616 * (afF a x).toNat := by
    rw [ahk, UInt64.toNat_mul]
    exact (Nat.mod_add_div _ _).symm
  have h1 := kr (a * x) c 0
  have h2 := kr t (rE (a * x) c 0) 0
  rw [show (0 : UInt64).toNat = 0 from rfl, Nat.add_zero] at h1 h2
  have key := amX hP h1 h2
  have hb := afx (W := 18446744073709551616) (by omega) (Nat.le_sub_one_of_lt t.toNat_lt) (Nat.le_sub_one_of_lt c.toNat_lt) (Nat.mul_le_mul (Nat.le_sub_one_of_lt a.toNat_lt) (Nat.le_sub_one_of_lt x.toNat_lt)) key
  have e : (wB t a x c).toNat = (afF a x).toNat + (tN (a * x) c 0).toNat + (tN t (rE (a * x) c 0) 0).toNat := by
    unfold wB
    rw [UInt64.toNat_add, UInt64.toNat_add, Nat.mod_add_mod]
    exact Nat.mod_eq_of_lt hb
  rw [e]
  exact key
theorem Bf {t a x c s k T A R W : Nat} (h1 : t + a * x + c = s + W * k) (h2 : T + A * x + k = R) : (t + W * T) + (a + W * A) * x + c = s + W * R := by
  rw [Nat.add_mul, Nat.mul_assoc, ← h2, Nat.mul_add, Nat.mul_add]
  omega
def apW (t0 t1 t2 t3 t4 t5 : UInt64) (a : aa) (x : UInt64) : List UInt64 :=
  let k0 := wB t0 a.w0 x 0
  let k1 := wB t1 a.w1 x k0
  let k2 := wB t2 a.w2 x k1
  let k3 := wB t3 a.w3 x k2
  [anh t0 a.w0 x 0, anh t1 a.w1 x k0, anh t2 a.w2 x k1, anh t3 a.w3 x k2, rE t4 k3 0, t5 + tN t4 k3 0]
theorem amY (t0 t1 t2 t3 t4 t5 : UInt64) (a : aa) (x : UInt64) : apW t0 t1 t2 t3 t4 t5 a x = l6 (v6 [t0, t1, t2, t3, t4, t5] + a.nat * x.toNat) := by
  have h4 := kr t4 (wB t3 a.w3 x (wB t2 a.w2 x (wB t1 a.w1 x (wB t0 a.w0 x 0)))) 0
  rw [show (0 : UInt64).toNat = 0 from rfl, Nat.add_zero] at h4
  have h5 : (t4.toNat + 18446744073709551616 * t5.toNat) + 0 * x.toNat + (wB t3 a.w3 x (wB t2 a.w2 x (wB t1 a.w1 x (wB t0 a.w0 x 0)))).toNat =
      (rE t4 (wB t3 a.w3 x (wB t2 a.w2 x (wB t1 a.w1 x (wB t0 a.w0 x 0)))) 0).toNat + 18446744073709551616 * (t5.toNat + (tN t4 (wB t3 a.w3 x (wB t2 a.w2 x (wB t1 a.w1 x (wB t0 a.w0 x 0)))) 0).toNat) := by
    rw [Nat.zero_mul, Nat.mul_add]
    omega
  have h := Bf (Be t0 a.w0 x 0) (Bf (Be t1 a.w1 x _) (Bf (Be t2 a.w2 x _) (Bf (Be t3 a.w3 x _) h5)))
  rw [show (0 : UInt64).toNat = 0 from rfl, Nat.add_zero, Nat.mul_zero, Nat.add_zero] at h
  exact (apq (f := t5 + tN t4 (wB t3 a.w3 x (wB t2 a.w2 x (wB t1 a.w1 x (wB t0 a.w0 x 0)))) 0) h (by rw [UInt64.toNat_add])).symm
end Go.Proofs.Ytkedomfjjahjnaa

namespace Go.Proofs.Ytkedomfjjahjnaa
open Sx Go
set_option maxRecDepth 100000
def po : aq := ⟨[.val true (.arr 6 .u64), .val true .elem, .val false .u64], [], true, 0, false⟩
abbrev Yx : Type := ((List (UInt64)) × (aa) × (UInt64) × Unit) × (Unit)
def DN : Shape := ⟨61, [(2, .val false .u64), (3, .ptr 0 0 0), (4, .ptr 1 0 0), (6, .ptr 2 0 0), (7, .val false .u64), (13, .val false .int)], [(0, .row .u64), (1, .row .u64), (2, .row .u64)], 0, true⟩
abbrev dg : Type := ((UInt64) × (Unit) × (Unit) × (Unit) × (UInt64) × (Int) × Unit) × ((List (UInt64)) × (List (UInt64)) × (List (UInt64)) × Unit)
def vf : Shape := ⟨61, [(3, .ptr 0 0 0), (6, .ptr 1 0 0), (7, .val false .u64)], [(0, .row .u64), (1, .row .u64)], 0, true⟩
abbrev mn : Type := ((Unit) × (Unit) × (UInt64) × Unit) × ((List (UInt64)) × (List (UInt64)) × Unit)
def ael : SE → Option Shape := ku [(0, vf)] none
def amw (a2 : UInt64) (a7 : UInt64) (a13 : Int) (c0 : List (UInt64)) (c1 : List (UInt64)) (c2 : List (UInt64)) : OT (Sum dg aO) :=
  let z0 : Bool := inB a13 6
  let z1 : Bool := decide (Int.toNat a13 + 0 < List.length c0)
  let z2 : UInt64 := List.getD c1 (Int.toNat a13 + 0) (0 : UInt64)
  let z3 : UInt64 := List.getD c0 (Int.toNat a13 + 0) (0 : UInt64)
  let z4 : UInt64 := rE (z2 * a2) a7 (0 : UInt64)
  (.br (decide (a13 < (4 : Int)))
  (gd [inB a13 4, decide (Int.toNat a13 + 0 < List.length c1), z0, z1, z0, z1, inR (a13 + (1 : Int))] (.ok (.inl ((a2, ((), ((), ((), (afF z2 a2 + tN (z2 * a2) a7 (0 : UInt64) + tN z3 z4 (0 : UInt64), (a13 + (1 : Int), ())))))), (List.set c0 (Int.toNat a13 + 0) (rE z3 z4 (0 : UInt64)), (c1, (c2, ())))))))
  (.ok (.inr ⟨(.exit 0, vf), (((), ((), (a7, ()))), (c0, (c2, ())))⟩)))
def DO (s : dg) : OT (Sum dg aO) := amw (s.1.1) (s.1.2.2.2.2.1) (s.1.2.2.2.2.2.1) (s.2.1) (s.2.2.1) (s.2.2.2.1)
theorem amt (s : dg) (Q : Sum dg aO → Prop) : wps te HN ax 1000 (bG (ak Try.f115) 0) (DN.inj s) (cU DN ael (Q : Sum DN.T aO → Prop)) = (DO s).wpR Q := by kernel_rfl
def JO (g0_0 : dg → mn) (s : dg) : OT aO := (.ok ⟨(.exit 0, vf), g0_0 s⟩)
def RJ : ay := ⟨[.val true (.arr 6 .u64)], [], false⟩
def VD : SV → Option ay := fun _ => some RJ
def aeo (ok0 : dg → Bool) (g0_0 : dg → mn) (a0 : List (UInt64)) (a1 : aa) (a2 : UInt64) : OT po.Y :=
  let z0 : (UInt64 × PUnit × PUnit × PUnit × UInt64 × Int × PUnit) × List UInt64 × List UInt64 × List UInt64 × PUnit := ((a2, (), (), (), (0 : UInt64), (0 : Int), ()), tab a0 6 (0 : UInt64), [a1.w0, a1.w1, a1.w2, a1.w3], [(0 : UInt64), (0 : UInt64), (0 : UInt64), (0 : UInt64), (0 : UInt64), (0 : UInt64)], ())
  let z1 : (PUnit × PUnit × UInt64 × PUnit) × List UInt64 × List UInt64 × PUnit := g0_0 z0
  let z2 := z1.snd
  let z3 := z2.fst
  let z4 : Bool := decide (4 < List.length z3)
  let z5 : UInt64 := List.getD z3 4 0
  let z6 := z1.fst.snd.snd.fst
  let z7 : List UInt64 := List.set z3 4 (rE z5 z6 (0 : UInt64))
  let z8 : Bool := decide (5 < List.length z7)
  let z9 : List UInt64 := List.set z7 5 (List.getD z7 5 0 + tN z5 z6 (0 : UInt64))
  let z10 := z2.snd.fst
  let z11 : List UInt64 := lay z10 z9 6 (0 : UInt64)
  (gd [ok0 z0, z4, z4, z8, z8, decide (6 ≤ List.length z9), decide ((6 / 1 : Nat) + 0 ≤ List.length z10), decide (6 ≤ List.length z11)] (.ok ⟨RJ, ((tab z11 6 (0 : UInt64), ()), ())⟩))
theorem aox (ok0 : dg → Bool) (g0_0 : dg → mn) (x : Yx) (Q : po.Y → Prop) : wpf te HN (bp 0 (dv DN 0 ok0 (JO g0_0)) ax) 1000 Try.f115 (po.inp.inj x).tm (po.inp.inj x).hp (fnK po VD Q) (fun _ _ => False) = (aeo ok0 g0_0 (x.1.1) (x.1.2.1) (x.1.2.2.1)).wpR Q := by kernel_rfl
theorem aem (ok0 : dg → Bool) (g0_0 : dg → mn) (h0 : ∀ s : dg, ok0 s = true → ∃ m e, au (DO) m s = some e ∧ (JO g0_0 s).run = some e) (pre : Yx → Bool) (F : Yx → OT po.Y) (hF : ∀ (x : Yx) oy, pre x = true → (F x).run = some oy → (aeo ok0 g0_0 (x.1.1) (x.1.2.1) (x.1.2.2.1)).run = some oy) : ab Try.prog 115 (po.aK pre F) :=
  aD av v8 HM (f := 115) (fn := Try.f115) (c := ak Try.f115) (by kernel_rfl) (by kernel_rfl) (by kernel_rfl) (S := po) (k := 0) (by kernel_rfl) (fun R hR => (aI (c := (ak Try.f115)) (by kernel_rfl) (id := 0) (by kernel_rfl) (bw av v8 HM (sh := DN) hR (xs := ael) (aH (by kernel_rfl) (by kernel_rfl) hR) aW ae (n := 1000) (T := DO) (fun s Q => amt s Q) (ok := ok0) (f := JO g0_0) h0) ae)) (n := 1000) (sel := VD) (fun v o h => by cases h; rfl) (pre := pre) (F := F) (T := fun x => aeo ok0 g0_0 (x.1.1) (x.1.2.1) (x.1.2.2.1)) (fun x Q => aox ok0 g0_0 x Q) hF
def aiw (a : List UInt64) (x : UInt64) (k : Nat) (s : List UInt64 × UInt64) : List UInt64 × UInt64 := (s.1.set k (anh (s.1.getD k 0) (a.getD k 0) x s.2), wB (s.1.getD k 0) (a.getD k 0) x s.2)
def VF (s : dg) : Bool := decide (s.1.2.2.2.2.1 = 0 ∧ s.1.2.2.2.2.2.1 = 0 ∧ s.2.1.length = 6 ∧ s.2.2.1.length = 4)
def aen (s : dg) : mn := (((), (), (upto (aiw s.2.2.1 s.1.1) (s.2.1, 0) 4).2, ()), ((upto (aiw s.2.2.1 s.1.1) (s.2.1, 0) 4).1, s.2.2.2.1, ()))
theorem amv : ∀ s : dg, VF s = true → ∃ m e, au DO m s = some e ∧ (JO aen s).run = some e := by
  rintro ⟨⟨x, ⟨⟩, ⟨⟩, ⟨⟩, c, i, ⟨⟩⟩, ⟨t, a, o, ⟨⟩⟩⟩ h
  have h' := of_decide_eq_true h
  dsimp only at h'
  obtain ⟨rfl, rfl, ht, ha⟩ := h'
  have := (bF (T := DO) (fun k s => (((x, (), (), (), s.2, (k : Int), ()), (s.1, a, o, ())) : dg)) (aiw a x)
    (fun s => (⟨(.exit 0, vf), (((), (), s.2, ()), (s.1, o, ()))⟩ : aO)) 4 (t, 0) (fun _ s => s.1.length = 6) ht (fun k s hk hs => ⟨?_, ?_⟩) (fun s hs => ?_)).1
  · obtain ⟨m, hm⟩ := this
    exact ⟨m, _, hm, rfl⟩
  · refine (OT.ao (decide_eq_true (by dsimp only; omega))).trans ((ai ?_).trans ?_)
    · simp only [Int.toNat_natCast, Nat.add_zero, hs, ha, List.all_cons, List.all_nil, Bool.and_true, Bool.and_eq_true]
      exact ⟨bJ (by omega), decide_eq_true (by omega), bJ (by omega), decide_eq_true (by omega), bJ (by omega), decide_eq_true (by omega), bC (by omega)⟩
    · simp only [OT.jz, Int.toNat_natCast, Nat.add_zero]
      rfl
  · simp only [aiw, List.length_set]
    exact hs
  · exact OT.ap (decide_eq_false (by dsimp only; omega))
def VE (_ : Yx) : Bool := true
def aep (x : Yx) : OT po.Y := .ok ⟨RJ, ((l6 (v6 x.1.1 + x.1.2.1.nat * x.1.2.2.1.toNat), ()), ())⟩
theorem amu : ab Try.prog 115 (po.aK VE aep) := aem VF aen amv _ _ fun x oy hp ho => by
  rw [← ho]
  clear ho
  obtain ⟨⟨t, a, x, ⟨⟩⟩, ⟨⟩⟩ := x
  refine (ai ?_).trans ?_
  · simp only [List.all_cons, List.all_nil, Bool.and_true, Bool.and_eq_true]
    exact ⟨rfl, rfl, rfl, rfl, rfl, rfl, rfl, rfl⟩
  · have e := amY (t.getD 0 0) (t.getD 1 0) (t.getD 2 0) (t.getD 3 0) (t.getD 4 0) (t.getD 5 0) a x
    have e2 : l6 (v6 t + a.nat * x.toNat) = apW (t.getD 0 0) (t.getD 1 0) (t.getD 2 0) (t.getD 3 0) (t.getD 4 0) (t.getD 5 0) a x := e.symm
    simp only [aep, e2]
    rfl
def DM : cI := (po.aK VE aep)
theorem Yw : ab Try.prog 115 DM := amu
theorem Yv : aJ DM := aA
def HQ : Env := az 115 DM HN
theorem wa : aV Try.prog HQ := ag Yw v8
theorem E9 : aw HQ := ac Yv EN
theorem HP : bg Try.prog te HQ := aN follows av wa E9
end Go.Proofs.Ytkedomfjjahjnaa

namespace Go.Proofs.Ytkedomfjjahjnaa
open Sx Go
theorem ano {n : Nat} (h : n / 18446744073709551616 / 18446744073709551616 / 18446744073709551616 / 18446744073709551616 / 18446744073709551616 < 18446744073709551616) : v6 (l6 n) = n := by
  unfold v6 l6
  simp only [List.getD_cons_zero, List.getD_cons_succ, UInt64.toNat_ofNat']
  rw [show (2 : Nat) ^ 64 = 18446744073709551616 from rfl]
  omega
def Bx (p neg a : Nat) (b t : Nat) : Nat := (t + a * b + p * ((t + a * b) * neg % 18446744073709551616)) / 18446744073709551616
theorem qb {p neg a b t : Nat} (hn : (p * neg + 1) % 18446744073709551616 = 0) : 18446744073709551616 * Bx p neg a b t = t + a * b + p * ((t + a * b) * neg % 18446744073709551616) := by
  unfold Bx
  refine Nat.mul_div_cancel' (Nat.dvd_of_mod_eq_zero ?_)
  generalize t + a * b = u
  rw [Nat.add_mod, Nat.mul_mod, Nat.mod_mod, ← Nat.mul_mod, ← Nat.add_mod]
  have : u + p * (u * neg) = u * (p * neg + 1) := by
    rw [Nat.mul_add, Nat.mul_one, Nat.mul_left_comm]
    omega
  rw [this, Nat.mul_mod, hn, Nat.mul_zero, Nat.zero_mod]
theorem qa {p neg a b t : Nat} (hn : (p * neg + 1) % 18446744073709551616 = 0) (ht : t < 2 * p) (ha : a < p) (hb : b < 18446744073709551616) : Bx p neg a b t < 2 * p := by
  have h := qb (a := a) (b := b) (t := t) hn
  have hm : (t + a * b) * neg % 18446744073709551616 ≤ 18446744073709551615 := by
    have := Nat.mod_lt ((t + a * b) * neg) (show 0 < 18446744073709551616 by omega)
    omega
  have h1 : p * ((t + a * b) * neg % 18446744073709551616) ≤ p * 18446744073709551615 := Nat.mul_le_mul_left _ hm
  have h2 : a * b ≤ p * 18446744073709551615 := Nat.mul_le_mul (by omega) (by omega)
  omega
theorem ak4 {p a b t t1 m K T B M W : Nat} (h1 : W * t1 = t + a * b + p * m) (h2 : K * T = t1 + a * B + p * M) : (W * K) * T = t + a * (b + W * B) + p * (m + W * M) := by
  have e : (W * K) * T = W * t1 + W * (a * B) + W * (p * M) := by rw [Nat.mul_assoc, h2, Nat.mul_add, Nat.mul_add]
  rw [e, h1, Nat.mul_add, Nat.mul_add, Nat.mul_left_comm a W, Nat.mul_left_comm p W]
  omega
theorem apX {p a b T K M r : Nat} (h : K * T = a * b + p * M) (hr : K * r % p = 1 % p) : T % p = a * b * r % p := by
  have h1 : (K * T) * r = a * b * r + p * (M * r) := by rw [h, Nat.add_mul, Nat.mul_assoc p]
  have h2 : a * b * r % p = (K * T * r) % p := by rw [h1, Nat.add_mul_mod_self_left]
  have h3 : K * T * r = T * (K * r) := by rw [Nat.mul_comm K T, Nat.mul_assoc]
  rw [h2, h3, Nat.mul_mod, hr, ← Nat.mul_mod, Nat.mul_one]
def an2 (p neg a : Nat) (b : aa) : Nat := Bx p neg a b.w3.toNat (Bx p neg a b.w2.toNat (Bx p neg a b.w1.toNat (Bx p neg a b.w0.toNat 0)))
theorem ahv {p neg a r : Nat} {b : aa} (hn : (p * neg + 1) % 18446744073709551616 = 0) (hr : 115792089237316195423570985008687907853269984665640564039457584007913129639936 * r % p = 1 % p) : an2 p neg a b % p = a * b.nat * r % p := by
  have h := ak4 (qb (a := a) (b := b.w0.toNat) (t := 0) hn) (ak4 (qb (a := a) (b := b.w1.toNat) hn) (ak4 (qb (a := a) (b := b.w2.toNat) hn) (show 18446744073709551616 * _ = _ + a * b.w3.toNat + p * _ from qb hn)))
  rw [Nat.zero_add] at h
  exact apX (K := 18446744073709551616 * (18446744073709551616 * (18446744073709551616 * 18446744073709551616))) h hr
theorem alU {p neg a : Nat} {b : aa} (hn : (p * neg + 1) % 18446744073709551616 = 0) (ha : a < p) : an2 p neg a b < 2 * p :=
  qa hn (qa hn (qa hn (qa hn (by omega) ha b.w0.toNat_lt) ha b.w1.toNat_lt) ha b.w2.toNat_lt) ha b.w3.toNat_lt
theorem alV {T p : Nat} (h : T < 2 * p) : T % p = if T < p then T else T - p := by
  split
  · exact Nat.mod_eq_of_lt ‹_›
  · rw [Nat.mod_eq_sub_mod (by omega), Nat.mod_eq_of_lt (by omega)]
end Go.Proofs.Ytkedomfjjahjnaa
