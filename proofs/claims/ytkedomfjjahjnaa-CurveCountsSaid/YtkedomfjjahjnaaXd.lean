/- A symbolic machine for Go code over plain data, and functions of the program as it shows them. No statement is proved in this file. -/
import Derived.KernelRfl
import Derived.Test.YtkedomfjjahjnaaXc
set_option linter.unusedSimpArgs false
set_option linter.unusedVariables false
set_option linter.unusedSectionVars false

namespace Go.Proofs.Ytkedomfjjahjnaa
open Sx Go
set_option maxRecDepth 100000
def wless_S : FnSpec := ⟨[.val true .elem, .val true .elem], [], true, 0, false⟩
abbrev wlessX : Type := ((Elem) × (Elem) × Unit) × (Unit)
def wless_o0 : OutSh := ⟨[.val false .bool], [], false⟩
def wless_sel : SV → Option OutSh := fun _ => some wless_o0
def wless_T (a0 : Elem) (a1 : Elem) : OT wless_S.Y :=
  (.ok ⟨wless_o0, (((wdif a0 a1).snd, ()), ())⟩)
theorem wless_q (x : wlessX) (Q : wless_S.Y → Prop) : wpf te E_wsub lamNil 1000 Try.f59 (wless_S.inp.inj x).tm (wless_S.inp.inj x).hp (fnK wless_S wless_sel Q) (fun _ _ => False) = (wless_T (x.1.1) (x.1.2.1)).wpR Q := by kernel_rfl
theorem wless_main (pre : wlessX → Bool) (F : wlessX → OT wless_S.Y) (hF : ∀ (x : wlessX) oy, pre x = true → (F x).run = some oy → (wless_T (x.1.1) (x.1.2.1)).run = some oy) : SummOk Try.prog 59 (wless_S.summ pre F) :=
  fn_tree te_ok E_wsub_ok E_wsub_any (f := 59) (fn := Try.f59) (c := codeOf Try.f59) (by kernel_rfl) (by kernel_rfl) (by kernel_rfl) (S := wless_S) (k := 0) (by kernel_rfl) (fun R hR => lamOk_nil) (n := 1000) (sel := wless_sel) (fun v o h => by cases h; rfl) (pre := pre) (F := F) (T := fun x => wless_T (x.1.1) (x.1.2.1)) (fun x Q => wless_q x Q) hF
def wless_pre (_ : wlessX) : Bool := true
def wless_F (x : wlessX) : OT wless_S.Y := .ok ⟨wless_o0, ((Nat.blt x.1.1.nat x.1.2.1.nat, ()), ())⟩
theorem wless_ok : SummOk Try.prog 59 (wless_S.summ wless_pre wless_F) := wless_main _ _ fun x oy _ ho => ho
def wless_summ : Summ := (wless_S.summ wless_pre wless_F)
theorem wless_known : SummOk Try.prog 59 wless_summ := wless_ok
theorem wless_smono : MonoOk wless_summ := fn_mono
def E_wless : Env := envCons 59 wless_summ E_wsub
theorem E_wless_ok : EnvOk Try.prog E_wless := envOk_cons wless_known E_wsub_ok
theorem E_wless_mono : EnvMono E_wless := envMono_cons wless_smono E_wsub_mono
theorem E_wless_any : AnyOk Try.prog te E_wless := any_ok follows te_ok E_wless_ok E_wless_mono
def wbit_S : FnSpec := ⟨[.val true .elem, .val false .int], [], true, 0, false⟩
abbrev wbitX : Type := ((Elem) × (Int) × Unit) × (Unit)
def wbit_o0 : OutSh := ⟨[.val false .bool], [], false⟩
def wbit_sel : SV → Option OutSh := fun _ => some wbit_o0
def wbit_T (a0 : Elem) (a1 : Int) : OT wbit_S.Y :=
  let z0 : Int := Int.tdiv a1 (64 : Int)
  let z1 : Int := Int.tmod a1 (64 : Int)
  (.br (decide ((0 : Int) ≤ a1))
  (.br (decide (a1 < (256 : Int)))
    (gd [true && inR z0, inB z0 4, decide (Int.toNat z0 + 0 < 4), decide ((0 : Int) ≤ z1)] (.ok ⟨wbit_o0, ((shr64 (List.getD [a0.w0, a0.w1, a0.w2, a0.w3] (Int.toNat z0 + 0) (0 : UInt64)) z1 &&& (1 : UInt64) == (1 : UInt64), ()), ())⟩))
    (.ok ⟨wbit_o0, ((false, ()), ())⟩))
  (.ok ⟨wbit_o0, ((false, ()), ())⟩))
theorem wbit_q (x : wbitX) (Q : wbit_S.Y → Prop) : wpf te E_wless lamNil 1000 Try.f49 (wbit_S.inp.inj x).tm (wbit_S.inp.inj x).hp (fnK wbit_S wbit_sel Q) (fun _ _ => False) = (wbit_T (x.1.1) (x.1.2.1)).wpR Q := by kernel_rfl
theorem wbit_main (pre : wbitX → Bool) (F : wbitX → OT wbit_S.Y) (hF : ∀ (x : wbitX) oy, pre x = true → (F x).run = some oy → (wbit_T (x.1.1) (x.1.2.1)).run = some oy) : SummOk Try.prog 49 (wbit_S.summ pre F) :=
  fn_tree te_ok E_wless_ok E_wless_any (f := 49) (fn := Try.f49) (c := codeOf Try.f49) (by kernel_rfl) (by kernel_rfl) (by kernel_rfl) (S := wbit_S) (k := 0) (by kernel_rfl) (fun R hR => lamOk_nil) (n := 1000) (sel := wbit_sel) (fun v o h => by cases h; rfl) (pre := pre) (F := F) (T := fun x => wbit_T (x.1.1) (x.1.2.1)) (fun x Q => wbit_q x Q) hF
theorem bit_low {w N r : Nat} (hr : r < 64) : (w + 18446744073709551616 * N) / 2 ^ r % 2 = w / 2 ^ r % 2 := by
  have e : 18446744073709551616 * N = 2 ^ r * (2 * (2 ^ (63 - r) * N)) := by
    rw [← Nat.mul_assoc, ← Nat.mul_assoc, Nat.mul_comm (2 ^ r) 2, Nat.mul_assoc 2, ← Nat.pow_add, show r + (63 - r) = 63 by omega]
  rw [e, Nat.add_mul_div_left _ _ (Nat.two_pow_pos r), Nat.add_mul_mod_self_left]
theorem word_up {w N : Nat} (hw : w < 18446744073709551616) (r : Nat) : (w + 18446744073709551616 * N) / 2 ^ (64 + r) = N / 2 ^ r := by
  rw [Nat.pow_add, ← Nat.div_div_eq_div_mul, show 2 ^ 64 = 18446744073709551616 from rfl, show (w + 18446744073709551616 * N) / 18446744073709551616 = N by omega]
def bitN (n i : Nat) : Bool := Nat.beq (n / 2 ^ i % 2) 1
theorem bit_word {a : Elem} {q r : Nat} (hq : q < 4) (hr : r < 64) : ((lst a).getD q 0).toNat / 2 ^ r % 2 = a.nat / 2 ^ (64 * q + r) % 2 := by
  have h0 := a.w0.toNat_lt
  have h1 := a.w1.toNat_lt
  have h2 := a.w2.toNat_lt
  unfold Sx.Elem.nat
  have hq' : q = 0 ∨ q = 1 ∨ q = 2 ∨ q = 3 := by omega
  rcases hq' with rfl | rfl | rfl | rfl
  · rw [Nat.mul_zero, Nat.zero_add, bit_low hr]; rfl
  · rw [show 64 * 1 + r = 64 + r by omega, word_up h0, bit_low hr]; rfl
  · rw [show 64 * 2 + r = 64 + (64 + r) by omega, word_up h0, word_up h1, bit_low hr]; rfl
  · rw [show 64 * 3 + r = 64 + (64 + (64 + r)) by omega, word_up h0, word_up h1, word_up h2]; rfl
theorem bit_one (x : UInt64) : (x &&& 1 == 1) = Nat.beq (x.toNat % 2) 1 := by
  have e : (x &&& 1).toNat = x.toNat % 2 := by
    rw [UInt64.toNat_and]
    exact Nat.and_two_pow_sub_one_eq_mod x.toNat 1
  rw [← e]
  by_cases h : x &&& 1 = 1
  · rw [h]; rfl
  · have h' : ¬ (x &&& 1).toNat = 1 := fun h' => h (UInt64.toNat_inj.1 h')
    have h2 : Nat.beq (x &&& 1).toNat 1 = false := by
      cases hb : Nat.beq (x &&& 1).toNat 1
      · rfl
      · exact absurd (Nat.eq_of_beq_eq_true hb) h'
    rw [h2]
    simpa using h
def bitI (a : Elem) (i : Int) : Bool := cond (decide (0 ≤ i)) (cond (decide (i < 256)) (bitN a.nat i.toNat) false) false
def wbit_pre (_ : wbitX) : Bool := true
def wbit_F (x : wbitX) : OT wbit_S.Y := .ok ⟨wbit_o0, ((bitI x.1.1 x.1.2.1, ()), ())⟩
theorem bit_word2 {a : Elem} {i : Int} (h1 : 0 ≤ i) (h2 : i < 256) : (shr64 (List.getD [a.w0, a.w1, a.w2, a.w3] (Int.toNat (Int.tdiv i 64) + 0) 0) (Int.tmod i 64) &&& 1 == 1) = bitI a i := by
  obtain ⟨n, rfl⟩ : ∃ n : Nat, i = (n : Int) := ⟨i.toNat, by omega⟩
  have hn : n < 256 := by omega
  have t1 : Int.tdiv (n : Int) 64 = ((n / 64 : Nat) : Int) := by rw [Int.tdiv_eq_ediv_of_nonneg (by omega)]; omega
  have t2 : Int.tmod (n : Int) 64 = ((n % 64 : Nat) : Int) := by rw [Int.tmod_eq_emod_of_nonneg (by omega)]; omega
  rw [t1, t2, bit_one, shr64_nat _ _ (by omega), Int.toNat_natCast, Nat.add_zero]
  have := bit_word (a := a) (q := n / 64) (r := n % 64) (by omega) (by omega)
  rw [show 64 * (n / 64) + n % 64 = n by omega] at this
  unfold bitI bitN
  rw [decide_eq_true h1, decide_eq_true h2, Int.toNat_natCast]
  simp only [cond_true]
  rw [← this]
  rfl
theorem wbit_ok : SummOk Try.prog 49 (wbit_S.summ wbit_pre wbit_F) := wbit_main _ _ fun x oy _ ho => by
  rw [← ho]
  clear ho
  obtain ⟨⟨a, i, ⟨⟩⟩, ⟨⟩⟩ := x
  show _ = (OT.ok ⟨wbit_o0, ((bitI a i, ()), ())⟩ : OT wbit_S.Y).run
  by_cases h1 : 0 ≤ i
  · refine (OT.run_t (decide_eq_true h1)).trans ?_
    by_cases h2 : i < 256
    · refine (OT.run_t (decide_eq_true h2)).trans ((gd_run ?_).trans ?_)
      · obtain ⟨n, rfl⟩ : ∃ n : Nat, i = (n : Int) := ⟨i.toNat, by omega⟩
        have t1 : Int.tdiv (n : Int) 64 = ((n / 64 : Nat) : Int) := by rw [Int.tdiv_eq_ediv_of_nonneg (by omega)]; omega
        have t2 : Int.tmod (n : Int) 64 = ((n % 64 : Nat) : Int) := by rw [Int.tmod_eq_emod_of_nonneg (by omega)]; omega
        simp only [t1, t2, Int.toNat_natCast, Nat.add_zero, List.all_cons, List.all_nil, Bool.and_true, Bool.and_eq_true, Bool.true_and]
        exact ⟨inR_of (by omega), inB_of (by omega), decide_eq_true (by omega), decide_eq_true (by omega)⟩
      · simp only [bit_word2 h1 h2]
    · have e : bitI a i = false := by unfold bitI; rw [decide_eq_true h1, decide_eq_false h2]; rfl
      rw [e]
      exact OT.run_f (decide_eq_false h2)
  · have e : bitI a i = false := by unfold bitI; rw [decide_eq_false h1]; rfl
    rw [e]
    exact OT.run_f (decide_eq_false h1)
def wbit_summ : Summ := (wbit_S.summ wbit_pre wbit_F)
theorem wbit_known : SummOk Try.prog 49 wbit_summ := wbit_ok
theorem wbit_smono : MonoOk wbit_summ := fn_mono
def E_wbit : Env := envCons 49 wbit_summ E_wless
theorem E_wbit_ok : EnvOk Try.prog E_wbit := envOk_cons wbit_known E_wless_ok
theorem E_wbit_mono : EnvMono E_wbit := envMono_cons wbit_smono E_wless_mono
theorem E_wbit_any : AnyOk Try.prog te E_wbit := any_ok follows te_ok E_wbit_ok E_wbit_mono
def fof_S : FnSpec := ⟨[.val false .int], [], true, 0, false⟩
abbrev fofX : Type := ((Int) × Unit) × (Unit)
def fof_o0 : OutSh := ⟨[.val true (.prod .elem (.prod .int (.prod .u64 (.prod .u64 .elem)))), .val false .int], [], false⟩
def fof_sel : SV → Option OutSh := fun _ => some fof_o0
def fof_T (a0 : Int) : OT fof_S.Y :=
  let z0 : Elem := { w0 := 0, w1 := 0, w2 := 0, w3 := 0 }
  let z1 : UInt64 × Elem := ((0 : UInt64), z0)
  (.br (a0 == (0 : Int))
  (.ok ⟨fof_o0, ((({ w0 := 16513537, w1 := 0, w2 := 0, w3 := 0 }, (9 : Int), (16513537 : UInt64), z1), ((0 : Int), ())), ())⟩)
  (.br (a0 == (1 : Int))
    (.ok ⟨fof_o0, ((({ w0 := 16521217, w1 := 0, w2 := 0, w3 := 0 }, (11 : Int), (16521217 : UInt64), z1), ((0 : Int), ())), ())⟩)
    (.br (a0 == (2 : Int))
      (.ok ⟨fof_o0, ((({ w0 := 11037532056220336129, w1 := 2469829653914515739, w2 := 0, w3 := 4611686018427387904 }, (32 : Int), (0 : UInt64), (11037532056220336127 : UInt64), { w0 := 10122100416058490895, w1 := 15551789045973377255, w2 := 8617542898466512152, w3 := 679271340751763220 }), ((0 : Int), ())), ())⟩)
      (.br (a0 == (3 : Int))
        (.ok ⟨fof_o0, ((({ w0 := 10108024940646105089, w1 := 2469829653919213789, w2 := 0, w3 := 4611686018427387904 }, (32 : Int), (0 : UInt64), (10108024940646105087 : UInt64), { w0 := 18200867980676431887, w1 := 7474641938123724515, w2 := 9200329640471491984, w3 := 679271340771891881 }), ((0 : Int), ())), ())⟩)
        (.ok ⟨fof_o0, (((z0, (0 : Int), (0 : UInt64), z1), ((20 : Int), ())), ())⟩)))))
theorem fof_q (x : fofX) (Q : fof_S.Y → Prop) : wpf te E_wbit lamNil 1000 Try.f78 (fof_S.inp.inj x).tm (fof_S.inp.inj x).hp (fnK fof_S fof_sel Q) (fun _ _ => False) = (fof_T (x.1.1)).wpR Q := by kernel_rfl
theorem fof_main (pre : fofX → Bool) (F : fofX → OT fof_S.Y) (hF : ∀ (x : fofX) oy, pre x = true → (F x).run = some oy → (fof_T (x.1.1)).run = some oy) : SummOk Try.prog 78 (fof_S.summ pre F) :=
  fn_tree te_ok E_wbit_ok E_wbit_any (f := 78) (fn := Try.f78) (c := codeOf Try.f78) (by kernel_rfl) (by kernel_rfl) (by kernel_rfl) (S := fof_S) (k := 0) (by kernel_rfl) (fun R hR => lamOk_nil) (n := 1000) (sel := fof_sel) (fun v o h => by cases h; rfl) (pre := pre) (F := F) (T := fun x => fof_T (x.1.1)) (fun x Q => fof_q x Q) hF
abbrev NumX : Type := Elem × Int × UInt64 × UInt64 × Elem
def noNum : NumX := (⟨0, 0, 0, 0⟩, 0, 0, 0, ⟨0, 0, 0, 0⟩)
def numOf : Nat → NumX
  | 0 => (⟨16513537, 0, 0, 0⟩, 9, 16513537, 0, ⟨0, 0, 0, 0⟩)
  | 1 => (⟨16521217, 0, 0, 0⟩, 11, 16521217, 0, ⟨0, 0, 0, 0⟩)
  | 2 => (⟨11037532056220336129, 2469829653914515739, 0, 4611686018427387904⟩, 32, 0, 11037532056220336127, ⟨10122100416058490895, 15551789045973377255, 8617542898466512152, 679271340751763220⟩)
  | 3 => (⟨10108024940646105089, 2469829653919213789, 0, 4611686018427387904⟩, 32, 0, 10108024940646105087, ⟨18200867980676431887, 7474641938123724515, 9200329640471491984, 679271340771891881⟩)
  | _ => noNum
def sortOk (s : Int) : Bool := decide (0 ≤ s) && decide (s < 4)
theorem sortOk_cases {s : Int} (h : sortOk s = true) : s = 0 ∨ s = 1 ∨ s = 2 ∨ s = 3 := by
  simp only [sortOk, Bool.and_eq_true, decide_eq_true_eq] at h
  omega
theorem sortOk_not {s : Int} (h : sortOk s = false) : (s == 0) = false ∧ (s == 1) = false ∧ (s == 2) = false ∧ (s == 3) = false := by
  have hn : ∀ k : Int, 0 ≤ k → k < 4 → (s == k) = false := fun k h0 h1 => by
    cases hb : s == k
    · rfl
    · have : s = k := by simpa using hb
      subst this
      simp only [sortOk, decide_eq_true h0, decide_eq_true h1, Bool.and_self] at h
      cases h
  exact ⟨hn 0 (by decide) (by decide), hn 1 (by decide) (by decide), hn 2 (by decide) (by decide), hn 3 (by decide) (by decide)⟩
def fof_pre (_ : fofX) : Bool := true
def fof_F (x : fofX) : OT fof_S.Y := .br (sortOk x.1.1) (.ok ⟨fof_o0, ((numOf x.1.1.toNat, ((0 : Int), ())), ())⟩) (.ok ⟨fof_o0, ((noNum, ((20 : Int), ())), ())⟩)
theorem fof_ok : SummOk Try.prog 78 (fof_S.summ fof_pre fof_F) := fof_main _ _ fun x oy _ ho => by
  rw [← ho]
  clear ho
  obtain ⟨⟨s, ⟨⟩⟩, ⟨⟩⟩ := x
  cases hs : sortOk s
  · obtain ⟨h0, h1, h2, h3⟩ := sortOk_not hs
    exact (OT.run_f h0).trans ((OT.run_f h1).trans ((OT.run_f h2).trans ((OT.run_f h3).trans (OT.run_f (b := sortOk s) hs).symm)))
  · rcases sortOk_cases hs with h | h | h | h
    all_goals
      have h : s = _ := h
      subst h
      rfl
def fof_summ : Summ := (fof_S.summ fof_pre fof_F)
theorem fof_known : SummOk Try.prog 78 fof_summ := fof_ok
theorem fof_smono : MonoOk fof_summ := fn_mono
def E_fof : Env := envCons 78 fof_summ E_wbit
theorem E_fof_ok : EnvOk Try.prog E_fof := envOk_cons fof_known E_wbit_ok
theorem E_fof_mono : EnvMono E_fof := envMono_cons fof_smono E_wbit_mono
theorem E_fof_any : AnyOk Try.prog te E_fof := any_ok follows te_ok E_fof_ok E_fof_mono
def fmod_S : FnSpec := ⟨[.val false .int], [], true, 0, false⟩
abbrev fmodX : Type := ((Int) × Unit) × (Unit)
def fmod_o0 : OutSh := ⟨[.val true .elem, .val false .int], [], false⟩
def fmod_sel : SV → Option OutSh := fun _ => some fmod_o0
def fmod_T (a0 : Int) : OT fmod_S.Y :=
  (.br (sortOk a0)
  (.ok ⟨fmod_o0, (((numOf (Int.toNat a0)).fst, ((0 : Int), ())), ())⟩)
  (.ok ⟨fmod_o0, (({ w0 := 0, w1 := 0, w2 := 0, w3 := 0 }, ((20 : Int), ())), ())⟩))
theorem fmod_q (x : fmodX) (Q : fmod_S.Y → Prop) : wpf te E_fof lamNil 1000 Try.f58 (fmod_S.inp.inj x).tm (fmod_S.inp.inj x).hp (fnK fmod_S fmod_sel Q) (fun _ _ => False) = (fmod_T (x.1.1)).wpR Q := by kernel_rfl
theorem fmod_main (pre : fmodX → Bool) (F : fmodX → OT fmod_S.Y) (hF : ∀ (x : fmodX) oy, pre x = true → (F x).run = some oy → (fmod_T (x.1.1)).run = some oy) : SummOk Try.prog 58 (fmod_S.summ pre F) :=
  fn_tree te_ok E_fof_ok E_fof_any (f := 58) (fn := Try.f58) (c := codeOf Try.f58) (by kernel_rfl) (by kernel_rfl) (by kernel_rfl) (S := fmod_S) (k := 0) (by kernel_rfl) (fun R hR => lamOk_nil) (n := 1000) (sel := fmod_sel) (fun v o h => by cases h; rfl) (pre := pre) (F := F) (T := fun x => fmod_T (x.1.1)) (fun x Q => fmod_q x Q) hF
def fmod_pre (_ : fmodX) : Bool := true
def fmod_F (x : fmodX) : OT fmod_S.Y := .br (sortOk x.1.1) (.ok ⟨fmod_o0, (((numOf x.1.1.toNat).1, ((0 : Int), ())), ())⟩) (.ok ⟨fmod_o0, ((⟨0, 0, 0, 0⟩, ((20 : Int), ())), ())⟩)
theorem fmod_ok : SummOk Try.prog 58 (fmod_S.summ fmod_pre fmod_F) := fmod_main _ _ fun x oy _ ho => ho
def fmod_summ : Summ := (fmod_S.summ fmod_pre fmod_F)
theorem fmod_known : SummOk Try.prog 58 fmod_summ := fmod_ok
theorem fmod_smono : MonoOk fmod_summ := fn_mono
def E_fmod : Env := envCons 58 fmod_summ E_fof
theorem E_fmod_ok : EnvOk Try.prog E_fmod := envOk_cons fmod_known E_fof_ok
theorem E_fmod_mono : EnvMono E_fmod := envMono_cons fmod_smono E_fof_mono
theorem E_fmod_any : AnyOk Try.prog te E_fmod := any_ok follows te_ok E_fmod_ok E_fmod_mono
def fred_S : FnSpec := ⟨[.val true (.prod .elem (.prod .int (.prod .u64 (.prod .u64 .elem)))), .val true .elem], [], true, 0, false⟩
abbrev fredX : Type := (((Elem × (Int × (UInt64 × (UInt64 × Elem))))) × (Elem) × Unit) × (Unit)
def fred_s0 : Shape := ⟨53, [(2, .ptr 0 0 0), (3, .ptr 1 0 0), (4, .ptr 2 0 0), (5, .val false .u64), (6, .val false .int)], [(0, .cells [.val false .u64, .val false .u64, .val false .u64, .val false .u64, .val false .int, .val false .u64, .val false .u64, .val false .u64, .val false .u64, .val false .u64, .val false .u64]), (1, .row .u64), (2, .row .u64)], 0, true⟩
abbrev fred_s0X : Type := ((Unit) × (Unit) × (Unit) × (UInt64) × (Int) × Unit) × (((UInt64) × (UInt64) × (UInt64) × (UInt64) × (Int) × (UInt64) × (UInt64) × (UInt64) × (UInt64) × (UInt64) × (UInt64) × Unit) × (List (UInt64)) × (List (UInt64)) × Unit)
def fred_e0_0 : Shape := ⟨53, [(4, .ptr 0 0 0), (5, .val false .u64)], [(0, .row .u64)], 0, true⟩
abbrev fred_e0_0X : Type := ((Unit) × (UInt64) × Unit) × ((List (UInt64)) × Unit)
def fred_x0 : SE → Option Shape := xsMk [(0, fred_e0_0)] none
def fred_T0 (a5 : UInt64) (a6 : Int) (c0_0 : UInt64) (c0_1 : UInt64) (c0_2 : UInt64) (c0_3 : UInt64) (c0_4 : Int) (c0_5 : UInt64) (c0_6 : UInt64) (c0_7 : UInt64) (c0_8 : UInt64) (c0_9 : UInt64) (c0_10 : UInt64) (c1 : List (UInt64)) (c2 : List (UInt64)) : OT (Sum fred_s0X LEnd) :=
  let z0 : UInt64 := List.getD c1 (Int.toNat a6 + 0) (0 : UInt64)
  (.br (decide ((0 : Int) ≤ a6))
  (gd [inB a6 4, decide (Int.toNat a6 + 0 < List.length c1), bdiv64_pre ((a5, z0, c0_5, ()), ()), inR (a6 - (1 : Int))] (.ok (.inl (((), ((), ((), (divR a5 z0 c0_5, (a6 - (1 : Int), ()))))), ((c0_0, (c0_1, (c0_2, (c0_3, (c0_4, (c0_5, (c0_6, (c0_7, (c0_8, (c0_9, (c0_10, ()))))))))))), (c1, (c2, ())))))))
  (.ok (.inr ⟨(.exit 0, fred_e0_0), (((), (a5, ())), (c2, ()))⟩)))
def fred_U0 (s : fred_s0X) : OT (Sum fred_s0X LEnd) := fred_T0 (s.1.2.2.2.1) (s.1.2.2.2.2.1) (s.2.1.1) (s.2.1.2.1) (s.2.1.2.2.1) (s.2.1.2.2.2.1) (s.2.1.2.2.2.2.1) (s.2.1.2.2.2.2.2.1) (s.2.1.2.2.2.2.2.2.1) (s.2.1.2.2.2.2.2.2.2.1) (s.2.1.2.2.2.2.2.2.2.2.1) (s.2.1.2.2.2.2.2.2.2.2.2.1) (s.2.1.2.2.2.2.2.2.2.2.2.2.1) (s.2.2.1) (s.2.2.2.1)
theorem fred_q0 (s : fred_s0X) (Q : Sum fred_s0X LEnd → Prop) : wps te E_fmod lamNil 1000 (loopOf (codeOf Try.f98) 0) (fred_s0.inj s) (stepK fred_s0 fred_x0 (Q : Sum fred_s0.T LEnd → Prop)) = (fred_U0 s).wpR Q := by kernel_rfl
def fred_f0 (g0_0 : fred_s0X → fred_e0_0X) (s : fred_s0X) : OT LEnd := (.ok ⟨(.exit 0, fred_e0_0), g0_0 s⟩)
def fred_s2 : Shape := ⟨53, [(2, .ptr 0 0 0), (3, .ptr 1 0 0), (4, .ptr 2 0 0)], [(0, .cells [.val false .u64, .val false .u64, .val false .u64, .val false .u64, .val false .int, .val false .u64, .val false .u64, .val false .u64, .val false .u64, .val false .u64, .val false .u64]), (1, .row .u64), (2, .row .u64)], 0, true⟩
abbrev fred_s2X : Type := ((Unit) × (Unit) × (Unit) × Unit) × (((UInt64) × (UInt64) × (UInt64) × (UInt64) × (Int) × (UInt64) × (UInt64) × (UInt64) × (UInt64) × (UInt64) × (UInt64) × Unit) × (List (UInt64)) × (List (UInt64)) × Unit)
def fred_e2_r : Shape := ⟨53, [(4, .ptr 0 0 0)], [(0, .row .u64)], 0, true⟩
abbrev fred_e2_rX : Type := ((Unit) × Unit) × ((List (UInt64)) × Unit)
def fred_x2 : SE → Option Shape := xsMk [] (some fred_e2_r)
def fred_T2 (c0_0 : UInt64) (c0_1 : UInt64) (c0_2 : UInt64) (c0_3 : UInt64) (c0_4 : Int) (c0_5 : UInt64) (c0_6 : UInt64) (c0_7 : UInt64) (c0_8 : UInt64) (c0_9 : UInt64) (c0_10 : UInt64) (c1 : List (UInt64)) (c2 : List (UInt64)) : OT (Sum fred_s2X LEnd) :=
  let z0 : Nat := List.length c1
  let z1 : Bool := decide (4 ≤ z0)
  let z2 : Elem × Bool := wdif { w0 := List.getD c1 0 0, w1 := List.getD c1 1 0, w2 := List.getD c1 2 0, w3 := List.getD c1 3 0 } { w0 := c0_0, w1 := c0_1, w2 := c0_2, w3 := c0_3 }
  let z3 := z2.fst
  (gd [z1] (.br (z2.snd)
  (gd [z1, decide ((4 / 1 : Nat) + 0 ≤ List.length c2)] (.ok (.inr ⟨(.ret, fred_e2_r), (((), ()), (lay c2 c1 4 (0 : UInt64), ()))⟩)))
  (gd [decide ((4 / 1 : Nat) + 0 ≤ z0)] (.ok (.inl (((), ((), ((), ()))), ((c0_0, (c0_1, (c0_2, (c0_3, (c0_4, (c0_5, (c0_6, (c0_7, (c0_8, (c0_9, (c0_10, ()))))))))))), (List.set (List.set (List.set (List.set c1 0 z3.w0) 1 z3.w1) 2 z3.w2) 3 z3.w3, (c2, ())))))))))
def fred_U2 (s : fred_s2X) : OT (Sum fred_s2X LEnd) := fred_T2 (s.2.1.1) (s.2.1.2.1) (s.2.1.2.2.1) (s.2.1.2.2.2.1) (s.2.1.2.2.2.2.1) (s.2.1.2.2.2.2.2.1) (s.2.1.2.2.2.2.2.2.1) (s.2.1.2.2.2.2.2.2.2.1) (s.2.1.2.2.2.2.2.2.2.2.1) (s.2.1.2.2.2.2.2.2.2.2.2.1) (s.2.1.2.2.2.2.2.2.2.2.2.2.1) (s.2.2.1) (s.2.2.2.1)
theorem fred_q2 (s : fred_s2X) (Q : Sum fred_s2X LEnd → Prop) : wps te E_fmod lamNil 1000 (loopOf (codeOf Try.f98) 2) (fred_s2.inj s) (stepK fred_s2 fred_x2 (Q : Sum fred_s2.T LEnd → Prop)) = (fred_U2 s).wpR Q := by kernel_rfl
def fred_f2 (g2_r : fred_s2X → fred_e2_rX) (s : fred_s2X) : OT LEnd := (.ok ⟨(.ret, fred_e2_r), g2_r s⟩)
def fred_o0 : OutSh := ⟨[.val true .elem], [], false⟩
def fred_sel : SV → Option OutSh := fun _ => some fred_o0
def fred_T (ok0 : fred_s0X → Bool) (g0_0 : fred_s0X → fred_e0_0X) (ok2 : fred_s2X → Bool) (g2_r : fred_s2X → fred_e2_rX) (a0 : (Elem × (Int × (UInt64 × (UInt64 × Elem))))) (a1 : Elem) : OT fred_S.Y :=
  let z0 : Bool := !a0.snd.snd.fst == (0 : UInt64)
  let z1 : (UInt64 × UInt64 × UInt64 × UInt64 × Int × UInt64 × UInt64 × UInt64 × UInt64 × UInt64 × UInt64 × PUnit) × List UInt64 × List UInt64 × PUnit := ((a0.fst.w0, a0.fst.w1, a0.fst.w2, a0.fst.w3, a0.snd.fst, a0.snd.snd.fst, a0.snd.snd.snd.fst, a0.snd.snd.snd.snd.w0, a0.snd.snd.snd.snd.w1, a0.snd.snd.snd.snd.w2, a0.snd.snd.snd.snd.w3, ()), [a1.w0, a1.w1, a1.w2, a1.w3], [(0 : UInt64), (0 : UInt64), (0 : UInt64), (0 : UInt64)], ())
  let z2 : (PUnit × PUnit × PUnit × UInt64 × Int × PUnit) × (UInt64 × UInt64 × UInt64 × UInt64 × Int × UInt64 × UInt64 × UInt64 × UInt64 × UInt64 × UInt64 × PUnit) × List UInt64 × List UInt64 × PUnit := (((), (), (), (0 : UInt64), (3 : Int), ()), z1)
  let z3 : (PUnit × UInt64 × PUnit) × List UInt64 × PUnit := g0_0 z2
  let z4 := z3.snd.fst
  let z5 : List UInt64 := List.set (List.set (List.set (List.set z4 0 z3.fst.snd.fst) 1 (0 : UInt64)) 2 (0 : UInt64)) 3 (0 : UInt64)
  let z6 : (PUnit × PUnit × PUnit × PUnit) × (UInt64 × UInt64 × UInt64 × UInt64 × Int × UInt64 × UInt64 × UInt64 × UInt64 × UInt64 × UInt64 × PUnit) × List UInt64 × List UInt64 × PUnit := (((), (), (), ()), z1)
  let z7 := (g2_r z6).snd.fst
  (.br (z0)
  (.br (a1.w1 ||| a1.w2 ||| a1.w3 == (0 : UInt64))
    (gd [z0] (.ok ⟨fred_o0, (({ w0 := a1.w0 % a0.snd.snd.fst, w1 := 0, w2 := 0, w3 := 0 }, ()), ())⟩))
    (gd [ok0 z2, decide ((4 / 1 : Nat) + 0 ≤ List.length z4), decide (4 ≤ List.length z5)] (.ok ⟨fred_o0, (({ w0 := List.getD z5 0 0, w1 := List.getD z5 1 0, w2 := List.getD z5 2 0, w3 := List.getD z5 3 0 }, ()), ())⟩)))
  (gd [ok2 z6, decide (4 ≤ List.length z7)] (.ok ⟨fred_o0, (({ w0 := List.getD z7 0 0, w1 := List.getD z7 1 0, w2 := List.getD z7 2 0, w3 := List.getD z7 3 0 }, ()), ())⟩)))
theorem fred_q (ok0 : fred_s0X → Bool) (g0_0 : fred_s0X → fred_e0_0X) (ok2 : fred_s2X → Bool) (g2_r : fred_s2X → fred_e2_rX) (x : fredX) (Q : fred_S.Y → Prop) : wpf te E_fmod (lamCons 2 (loopF fred_s2 2 ok2 (fred_f2 g2_r)) (lamCons 0 (loopF fred_s0 0 ok0 (fred_f0 g0_0)) lamNil)) 1000 Try.f98 (fred_S.inp.inj x).tm (fred_S.inp.inj x).hp (fnK fred_S fred_sel Q) (fun _ _ => False) = (fred_T ok0 g0_0 ok2 g2_r (x.1.1) (x.1.2.1)).wpR Q := by kernel_rfl
theorem fred_main (ok0 : fred_s0X → Bool) (g0_0 : fred_s0X → fred_e0_0X) (ok2 : fred_s2X → Bool) (g2_r : fred_s2X → fred_e2_rX) (h0 : ∀ s : fred_s0X, ok0 s = true → ∃ m e, loopRun (fred_U0) m s = some e ∧ (fred_f0 g0_0 s).run = some e) (h2 : ∀ s : fred_s2X, ok2 s = true → ∃ m e, loopRun (fred_U2) m s = some e ∧ (fred_f2 g2_r s).run = some e) (pre : fredX → Bool) (F : fredX → OT fred_S.Y) (hF : ∀ (x : fredX) oy, pre x = true → (F x).run = some oy → (fred_T ok0 g0_0 ok2 g2_r (x.1.1) (x.1.2.1)).run = some oy) : SummOk Try.prog 98 (fred_S.summ pre F) :=
  fn_tree te_ok E_fmod_ok E_fmod_any (f := 98) (fn := Try.f98) (c := codeOf Try.f98) (by kernel_rfl) (by kernel_rfl) (by kernel_rfl) (S := fred_S) (k := 0) (by kernel_rfl) (fun R hR => (lamOk_cons (c := (codeOf Try.f98)) (by kernel_rfl) (id := 2) (by kernel_rfl) (loop_ok te_ok E_fmod_ok E_fmod_any (sh := fred_s2) hR (xs := fred_x2) (xsMk_small (by kernel_rfl) (by kernel_rfl) hR) xsMk_pan lamOk_nil (n := 1000) (T := fred_U2) (fun s Q => fred_q2 s Q) (ok := ok2) (f := fred_f2 g2_r) h2) (lamOk_cons (c := (codeOf Try.f98)) (by kernel_rfl) (id := 0) (by kernel_rfl) (loop_ok te_ok E_fmod_ok E_fmod_any (sh := fred_s0) hR (xs := fred_x0) (xsMk_small (by kernel_rfl) (by kernel_rfl) hR) xsMk_pan lamOk_nil (n := 1000) (T := fred_U0) (fun s Q => fred_q0 s Q) (ok := ok0) (f := fred_f0 g0_0) h0) lamOk_nil))) (n := 1000) (sel := fred_sel) (fun v o h => by cases h; rfl) (pre := pre) (F := F) (T := fun x => fred_T ok0 g0_0 ok2 g2_r (x.1.1) (x.1.2.1)) (fun x Q => fred_q ok0 g0_0 ok2 g2_r x Q) hF
def numOk (n : NumX) : Bool := decide (n = numOf 0) || (decide (n = numOf 1) || (decide (n = numOf 2) || decide (n = numOf 3)))
theorem numOk_cases {n : NumX} (h : numOk n = true) : n = numOf 0 ∨ n = numOf 1 ∨ n = numOf 2 ∨ n = numOf 3 := by
  simpa [numOk] using h
theorem numOk_of {s : Int} (h : sortOk s = true) : numOk (numOf s.toNat) = true := by
  rcases sortOk_cases h with rfl | rfl | rfl | rfl <;> decide +kernel
def remL (c : List UInt64) (m : UInt64) : UInt64 := upto (fun k r => divR r (c.getD (3 - k) 0) m) 0 4
theorem small_pos {m : UInt64} (h : isSmall m = true) : 0 < m.toNat := by
  rcases isSmall_cases h with rfl | rfl <;> decide
theorem remL_nat {a : Elem} {m : UInt64} (h : isSmall m = true) : remL (lst a) m = UInt64.ofNat (a.nat % m.toNat) := by
  have hm := small_pos h
  rw [← UInt64.toNat_inj, UInt64.toNat_ofNat', Nat.mod_eq_of_lt (b := 2 ^ 64) (Nat.lt_trans (Nat.mod_lt _ hm) m.toNat_lt)]
  show (divR (divR (divR (divR 0 a.w3 m) a.w2 m) a.w1 m) a.w0 m).toNat = _
  rw [divR_nat hm, divR_nat hm, divR_nat hm, divR_nat hm, mod_step _ a.w2.toNat, mod_step _ a.w1.toNat, mod_step _ a.w0.toNat, show (0 : UInt64).toNat = 0 from rfl]
  congr 1
  unfold Sx.Elem.nat
  omega
def fred_ok0 (s : fred_s0X) : Bool := decide (s.1.2.2.2.1 = 0 ∧ s.1.2.2.2.2.1 = 3 ∧ s.2.2.1.length = 4) && isSmall s.2.1.2.2.2.2.2.1
def fred_g0 (s : fred_s0X) : fred_e0_0X := (((), remL s.2.2.1 s.2.1.2.2.2.2.2.1, ()), (s.2.2.2.1, ()))
theorem fred_h0 : ∀ s : fred_s0X, fred_ok0 s = true → ∃ m e, loopRun fred_U0 m s = some e ∧ (fred_f0 fred_g0 s).run = some e := by
  rintro ⟨⟨⟨⟩, ⟨⟩, ⟨⟩, r, i, ⟨⟩⟩, ⟨⟨x0, x1, x2, x3, x4, sm, x6, x7, x8, x9, x10, ⟨⟩⟩, c1, c2, ⟨⟩⟩⟩ h
  simp only [fred_ok0, Bool.and_eq_true, decide_eq_true_eq] at h
  obtain ⟨⟨rfl, rfl, hl⟩, hs⟩ := h
  have hm := small_pos hs
  have := (loop_upto (T := fred_U0) (fun k r => ((((), (), (), r, 3 - (k : Int), ()), ((x0, x1, x2, x3, x4, sm, x6, x7, x8, x9, x10, ()), c1, c2, ())) : fred_s0X)) (fun k r => divR r (c1.getD (3 - k) 0) sm)
    (fun r => (⟨(.exit 0, fred_e0_0), (((), r, ()), (c2, ()))⟩ : LEnd)) 4 0 (fun _ r => r.toNat < sm.toNat) hm (fun k r hk hr => ⟨?_, ?_⟩) (fun r hr => ?_)).1
  · obtain ⟨m, hm⟩ := this
    exact ⟨m, _, hm, rfl⟩
  · have e1 : (3 - (k : Int)).toNat = 3 - k := by omega
    have e2 : (3 : Int) - (k : Int) - 1 = 3 - ((k + 1 : Nat) : Int) := by omega
    refine (OT.run_t (decide_eq_true (by dsimp only; omega))).trans ((gd_run ?_).trans ?_)
    · simp only [e1, Nat.add_zero, hl, List.all_cons, List.all_nil, Bool.and_true, Bool.and_eq_true]
      refine ⟨inB_of (by omega), decide_eq_true (by omega), ?_, inR_of (by omega)⟩
      simp only [bdiv64_pre, Bool.and_eq_true]
      exact ⟨hs, decide_eq_true (UInt64.lt_iff_toNat_lt.2 hr)⟩
    · simp only [OT.run_ok, e1, e2, Nat.add_zero]
  · rw [divR_nat hm]
    exact Nat.mod_lt _ hm
  · exact OT.run_f (decide_eq_false (by dsimp only; omega))
def cMod (s : fred_s2X) : Elem := ⟨s.2.1.1, s.2.1.2.1, s.2.1.2.2.1, s.2.1.2.2.2.1⟩
def fred_ok2 (s : fred_s2X) : Bool := decide (s.2.2.1.length = 4 ∧ s.2.2.2.1.length = 4 ∧ 0 < (cMod s).nat)
def fred_g2 (s : fred_s2X) : fred_e2_rX := (((), ()), (lst (ofN ((elemOf s.2.2.1).nat % (cMod s).nat)), ()))
theorem fred_loop2 {x0 x1 x2 x3 x5 x6 x7 x8 x9 x10 : UInt64} {x4 : Int} {c2 : List UInt64} (hc : c2.length = 4) (hm : 0 < (Elem.mk x0 x1 x2 x3).nat) : ∀ (n : Nat) (a : Elem), a.nat = n →
    ∃ m, loopRun fred_U2 m (((), (), (), ()), ((x0, x1, x2, x3, x4, x5, x6, x7, x8, x9, x10, ()), lst a, c2, ())) = some ⟨(.ret, fred_e2_r), (((), ()), (lst (ofN (a.nat % (Elem.mk x0 x1 x2 x3).nat)), ()))⟩ := by
  intro n
  induction n using Nat.strongRecOn with
  | _ n ih =>
    intro a hn
    cases hb : Nat.blt a.nat (Elem.mk x0 x1 x2 x3).nat
    · have hle : (Elem.mk x0 x1 x2 x3).nat ≤ a.nat := by
        rcases Nat.lt_or_ge a.nat (Elem.mk x0 x1 x2 x3).nat with h | h
        · have : Nat.blt a.nat (Elem.mk x0 x1 x2 x3).nat = true := Nat.ble_eq_true_of_le h
          rw [this] at hb; cases hb
        · exact h
      have hd := wdif_nat hle
      obtain ⟨m, hm2⟩ := ih (a.nat - (Elem.mk x0 x1 x2 x3).nat) (by omega) (wdif a ⟨x0, x1, x2, x3⟩).1 hd
      rw [hd, ← Nat.mod_eq_sub_mod hle] at hm2
      refine ⟨m + 1, loopRun_more ?_ hm2⟩
      refine (gd_run ?_).trans ((OT.run_f hb).trans ((gd_run ?_).trans rfl))
      · rfl
      · rfl
    · have hlt := blt_of hb
      rw [Nat.mod_eq_of_lt hlt, ofN_self]
      refine ⟨1, loopRun_out ?_⟩
      refine (gd_run ?_).trans ((OT.run_t hb).trans ((gd_run ?_).trans ?_))
      · rfl
      · simp only [hc, List.all_cons, List.all_nil, Bool.and_true, Bool.and_eq_true]
        exact ⟨rfl, rfl⟩
      · show some (Sum.inr (⟨(.ret, fred_e2_r), (((), ()), (lay c2 (lst a) 4 0, ()))⟩ : LEnd)) = _
        rw [lay_eq hc (lst_length a)]
theorem fred_h2 : ∀ s : fred_s2X, fred_ok2 s = true → ∃ m e, loopRun fred_U2 m s = some e ∧ (fred_f2 fred_g2 s).run = some e := by
  rintro ⟨⟨⟨⟩, ⟨⟩, ⟨⟩, ⟨⟩⟩, ⟨⟨x0, x1, x2, x3, x4, x5, x6, x7, x8, x9, x10, ⟨⟩⟩, c1, c2, ⟨⟩⟩⟩ h
  have h' := of_decide_eq_true h
  dsimp only [cMod] at h'
  obtain ⟨h1, h2, h3⟩ := h'
  obtain ⟨m, hm⟩ := fred_loop2 (x4 := x4) (x5 := x5) (x6 := x6) (x7 := x7) (x8 := x8) (x9 := x9) (x10 := x10) h2 h3 _ (elemOf c1) rfl
  rw [lst_elemOf h1] at hm
  exact ⟨m, _, hm, rfl⟩
def fred_pre (x : fredX) : Bool := numOk x.1.1
def fred_F (x : fredX) : OT fred_S.Y := .ok ⟨fred_o0, ((ofN (x.1.2.1.nat % x.1.1.1.nat), ()), ())⟩
theorem ofN_small {n : Nat} (h : n < 18446744073709551616) : ofN n = ⟨UInt64.ofNat n, 0, 0, 0⟩ := by
  refine ofN_eq (k := 0) ?_
  rw [UInt64.toNat_ofNat', Nat.mod_eq_of_lt (by omega)]
  simp
theorem fred_little {n : NumX} {a : Elem} {m : UInt64} (h1 : n.1 = ⟨m, 0, 0, 0⟩) (h2 : n.2.2.1 = m) (hs : isSmall m = true) : (fred_T fred_ok0 fred_g0 fred_ok2 fred_g2 n a).run = some ⟨fred_o0, ((ofN (a.nat % n.1.nat), ()), ())⟩ := by
  have hm := small_pos hs
  have hn : n.1.nat = m.toNat := by rw [h1]; show m.toNat + _ * (0 + _ * (0 + _ * 0)) = _; omega
  have hz : (!(n.2.2.1 == 0)) = true := by
    rw [h2]
    rcases isSmall_cases hs with rfl | rfl <;> rfl
  have hlt : a.nat % m.toNat < 18446744073709551616 := Nat.lt_trans (Nat.mod_lt _ hm) m.toNat_lt
  rw [hn, ofN_small hlt]
  unfold fred_T
  refine (OT.run_t hz).trans ?_
  cases hb : (a.w1 ||| a.w2 ||| a.w3 == 0)
  · refine (OT.run_f rfl).trans ((gd_run ?_).trans ?_)
    · simp only [List.all_cons, List.all_nil, Bool.and_true, Bool.and_eq_true]
      refine ⟨?_, rfl, rfl⟩
      show (decide _ && isSmall n.2.2.1) = true
      rw [h2, hs, Bool.and_true]
      exact decide_eq_true ⟨rfl, rfl, rfl⟩
    · show some (⟨fred_o0, ((⟨remL (lst a) n.2.2.1, 0, 0, 0⟩, ()), ())⟩ : fred_S.Y) = _
      rw [h2, remL_nat hs]
  · refine (OT.run_t rfl).trans ((gd_run ?_).trans ?_)
    · simp only [hz, List.all_cons, List.all_nil, Bool.and_true]
    · have hw : a.w1 = 0 ∧ a.w2 = 0 ∧ a.w3 = 0 := by
        have : a.w1 ||| a.w2 ||| a.w3 = 0 := by simpa using hb
        simpa [UInt64.or_eq_zero_iff, and_assoc] using this
      have ha : a.nat = a.w0.toNat := by
        unfold Sx.Elem.nat
        rw [hw.1, hw.2.1, hw.2.2]
        show _ + _ * (0 + _ * (0 + _ * 0)) = _
        omega
      show some (⟨fred_o0, ((⟨a.w0 % n.2.2.1, 0, 0, 0⟩, ()), ())⟩ : fred_S.Y) = _
      have e : a.w0 % n.2.2.1 = UInt64.ofNat (a.nat % m.toNat) := by
        rw [h2, ha, ← UInt64.toNat_inj, UInt64.toNat_mod, UInt64.toNat_ofNat']
        exact (Nat.mod_eq_of_lt (by rw [← ha]; omega)).symm
      rw [e]
theorem fred_great {n : NumX} {a : Elem} (h2 : n.2.2.1 = 0) (hs : 0 < n.1.nat) : (fred_T fred_ok0 fred_g0 fred_ok2 fred_g2 n a).run = some ⟨fred_o0, ((ofN (a.nat % n.1.nat), ()), ())⟩ := by
  unfold fred_T
  refine (OT.run_f (by rw [h2]; rfl)).trans ((gd_run ?_).trans ?_)
  · simp only [List.all_cons, List.all_nil, Bool.and_true, Bool.and_eq_true]
    exact ⟨decide_eq_true ⟨rfl, rfl, hs⟩, rfl⟩
  · rfl
theorem pos2 : 0 < (numOf 2).1.nat := by decide +kernel
theorem pos3 : 0 < (numOf 3).1.nat := by decide +kernel
theorem fred_ok : SummOk Try.prog 98 (fred_S.summ fred_pre fred_F) := fred_main fred_ok0 fred_g0 fred_ok2 fred_g2 fred_h0 fred_h2 _ _ fun x oy hp ho => by
  rw [← ho]
  clear ho
  obtain ⟨⟨n, a, ⟨⟩⟩, ⟨⟩⟩ := x
  have hp' : numOk n = true := hp
  rcases numOk_cases hp' with rfl | rfl | rfl | rfl
  · exact fred_little (m := 16513537) rfl rfl rfl
  · exact fred_little (m := 16521217) rfl rfl rfl
  · exact fred_great rfl pos2
  · exact fred_great rfl pos3
def fred_summ : Summ := (fred_S.summ fred_pre fred_F)
theorem fred_known : SummOk Try.prog 98 fred_summ := fred_ok
theorem fred_smono : MonoOk fred_summ := fn_mono
def E_fred : Env := envCons 98 fred_summ E_fmod
theorem E_fred_ok : EnvOk Try.prog E_fred := envOk_cons fred_known E_fmod_ok
theorem E_fred_mono : EnvMono E_fred := envMono_cons fred_smono E_fmod_mono
theorem E_fred_any : AnyOk Try.prog te E_fred := any_ok follows te_ok E_fred_ok E_fred_mono
def fadd0_S : FnSpec := ⟨[.val true (.prod .elem (.prod .int (.prod .u64 (.prod .u64 .elem)))), .val true .elem, .val true .elem], [], true, 0, false⟩
abbrev fadd0X : Type := (((Elem × (Int × (UInt64 × (UInt64 × Elem))))) × (Elem) × (Elem) × Unit) × (Unit)
def fadd0_o0 : OutSh := ⟨[.val true .elem], [], false⟩
def fadd0_sel : SV → Option OutSh := fun _ => some fadd0_o0
def fadd0_T (a0 : (Elem × (Int × (UInt64 × (UInt64 × Elem))))) (a1 : Elem) (a2 : Elem) : OT fadd0_S.Y :=
  let z0 : Nat := Elem.nat a0.fst
  let z1 : Elem := (wsum (ofN (Elem.nat a1 % z0)) (ofN (Elem.nat a2 % z0))).fst
  (gd [fred_pre ((a0, a1, ()), ()), fred_pre ((a0, a2, ()), ()), fred_pre ((a0, z1, ()), ())] (.ok ⟨fadd0_o0, ((ofN (Elem.nat z1 % z0), ()), ())⟩))
theorem fadd0_q (x : fadd0X) (Q : fadd0_S.Y → Prop) : wpf te E_fred lamNil 1000 Try.f79 (fadd0_S.inp.inj x).tm (fadd0_S.inp.inj x).hp (fnK fadd0_S fadd0_sel Q) (fun _ _ => False) = (fadd0_T (x.1.1) (x.1.2.1) (x.1.2.2.1)).wpR Q := by kernel_rfl
theorem fadd0_main (pre : fadd0X → Bool) (F : fadd0X → OT fadd0_S.Y) (hF : ∀ (x : fadd0X) oy, pre x = true → (F x).run = some oy → (fadd0_T (x.1.1) (x.1.2.1) (x.1.2.2.1)).run = some oy) : SummOk Try.prog 79 (fadd0_S.summ pre F) :=
  fn_tree te_ok E_fred_ok E_fred_any (f := 79) (fn := Try.f79) (c := codeOf Try.f79) (by kernel_rfl) (by kernel_rfl) (by kernel_rfl) (S := fadd0_S) (k := 0) (by kernel_rfl) (fun R hR => lamOk_nil) (n := 1000) (sel := fadd0_sel) (fun v o h => by cases h; rfl) (pre := pre) (F := F) (T := fun x => fadd0_T (x.1.1) (x.1.2.1) (x.1.2.2.1)) (fun x Q => fadd0_q x Q) hF
theorem numOk_pos {n : NumX} (h : numOk n = true) : 0 < n.1.nat ∧ n.1.nat < 57896044618658097711785492504343953926634992332820282019728792003956564819968 := by
  rcases numOk_cases h with rfl | rfl | rfl | rfl
  · exact ⟨by decide +kernel, by decide +kernel⟩
  · exact ⟨by decide +kernel, by decide +kernel⟩
  · exact ⟨by decide +kernel, by decide +kernel⟩
  · exact ⟨by decide +kernel, by decide +kernel⟩
def pS (s : Int) : Nat := (numOf s.toNat).1.nat
theorem pS_pos {s : Int} (h : sortOk s = true) : 0 < pS s ∧ pS s < 57896044618658097711785492504343953926634992332820282019728792003956564819968 := numOk_pos (numOk_of h)
def addP (p : Nat) (a b : Elem) : Elem := ofN ((a.nat + b.nat) % p)
def negP (p : Nat) (a : Elem) : Elem := ofN ((p - a.nat % p) % p)
def mulP (p : Nat) (a b : Elem) : Elem := ofN (a.nat * b.nat % p)
theorem rem_nat {p n : Nat} (h : 0 < p ∧ p < 57896044618658097711785492504343953926634992332820282019728792003956564819968) : (ofN (n % p)).nat = n % p := by
  have := Nat.mod_lt n h.1
  exact nat_ofN (by omega)
theorem addP_eq {p : Nat} (h : 0 < p ∧ p < 57896044618658097711785492504343953926634992332820282019728792003956564819968) (a b : Elem) : ofN ((wsum (ofN (a.nat % p)) (ofN (b.nat % p))).1.nat % p) = addP p a b := by
  have ha := Nat.mod_lt a.nat h.1
  have hb := Nat.mod_lt b.nat h.1
  have e : (wsum (ofN (a.nat % p)) (ofN (b.nat % p))).1.nat = a.nat % p + b.nat % p := by
    show (ofN _).nat = _
    rw [rem_nat h, rem_nat h]
    exact nat_ofN (by omega)
  unfold addP
  rw [e, ← Nat.add_mod]
def fadd0_pre (x : fadd0X) : Bool := numOk x.1.1
def fadd0_F (x : fadd0X) : OT fadd0_S.Y := .ok ⟨fadd0_o0, ((addP x.1.1.1.nat x.1.2.1 x.1.2.2.1, ()), ())⟩
theorem fadd0_ok : SummOk Try.prog 79 (fadd0_S.summ fadd0_pre fadd0_F) := fadd0_main _ _ fun x oy hp ho => by
  rw [← ho]
  clear ho
  obtain ⟨⟨n, a, b, ⟨⟩⟩, ⟨⟩⟩ := x
  have hp' : numOk n = true := hp
  refine (gd_run ?_).trans ?_
  · simp only [List.all_cons, List.all_nil, Bool.and_true, Bool.and_eq_true]
    exact ⟨hp', hp', hp'⟩
  · simp only [fadd0_F, addP_eq (numOk_pos hp')]
def fadd0_summ : Summ := (fadd0_S.summ fadd0_pre fadd0_F)
theorem fadd0_known : SummOk Try.prog 79 fadd0_summ := fadd0_ok
theorem fadd0_smono : MonoOk fadd0_summ := fn_mono
def E_fadd0 : Env := envCons 79 fadd0_summ E_fred
theorem E_fadd0_ok : EnvOk Try.prog E_fadd0 := envOk_cons fadd0_known E_fred_ok
theorem E_fadd0_mono : EnvMono E_fadd0 := envMono_cons fadd0_smono E_fred_mono
theorem E_fadd0_any : AnyOk Try.prog te E_fadd0 := any_ok follows te_ok E_fadd0_ok E_fadd0_mono
def fneg0_S : FnSpec := ⟨[.val true (.prod .elem (.prod .int (.prod .u64 (.prod .u64 .elem)))), .val true .elem], [], true, 0, false⟩
abbrev fneg0X : Type := (((Elem × (Int × (UInt64 × (UInt64 × Elem))))) × (Elem) × Unit) × (Unit)
def fneg0_o0 : OutSh := ⟨[.val true .elem], [], false⟩
def fneg0_sel : SV → Option OutSh := fun _ => some fneg0_o0
def fneg0_T (a0 : (Elem × (Int × (UInt64 × (UInt64 × Elem))))) (a1 : Elem) : OT fneg0_S.Y :=
  let z0 : Nat := Elem.nat a0.fst
  let z1 : Elem := (wdif a0.fst (ofN (Elem.nat a1 % z0))).fst
  (gd [fred_pre ((a0, a1, ()), ()), fred_pre ((a0, z1, ()), ())] (.ok ⟨fneg0_o0, ((ofN (Elem.nat z1 % z0), ()), ())⟩))
theorem fneg0_q (x : fneg0X) (Q : fneg0_S.Y → Prop) : wpf te E_fadd0 lamNil 1000 Try.f90 (fneg0_S.inp.inj x).tm (fneg0_S.inp.inj x).hp (fnK fneg0_S fneg0_sel Q) (fun _ _ => False) = (fneg0_T (x.1.1) (x.1.2.1)).wpR Q := by kernel_rfl
theorem fneg0_main (pre : fneg0X → Bool) (F : fneg0X → OT fneg0_S.Y) (hF : ∀ (x : fneg0X) oy, pre x = true → (F x).run = some oy → (fneg0_T (x.1.1) (x.1.2.1)).run = some oy) : SummOk Try.prog 90 (fneg0_S.summ pre F) :=
  fn_tree te_ok E_fadd0_ok E_fadd0_any (f := 90) (fn := Try.f90) (c := codeOf Try.f90) (by kernel_rfl) (by kernel_rfl) (by kernel_rfl) (S := fneg0_S) (k := 0) (by kernel_rfl) (fun R hR => lamOk_nil) (n := 1000) (sel := fneg0_sel) (fun v o h => by cases h; rfl) (pre := pre) (F := F) (T := fun x => fneg0_T (x.1.1) (x.1.2.1)) (fun x Q => fneg0_q x Q) hF
theorem negP_eq {m : Elem} (h : 0 < m.nat ∧ m.nat < 57896044618658097711785492504343953926634992332820282019728792003956564819968) (a : Elem) : ofN ((wdif m (ofN (a.nat % m.nat))).1.nat % m.nat) = negP m.nat a := by
  have ha := Nat.mod_lt a.nat h.1
  have e := rem_nat (n := a.nat) h
  have e2 : (wdif m (ofN (a.nat % m.nat))).1.nat = m.nat - a.nat % m.nat := by
    rw [wdif_nat (by rw [e]; omega), e]
  unfold negP
  rw [e2]
def fneg0_pre (x : fneg0X) : Bool := numOk x.1.1
def fneg0_F (x : fneg0X) : OT fneg0_S.Y := .ok ⟨fneg0_o0, ((negP x.1.1.1.nat x.1.2.1, ()), ())⟩
theorem fneg0_ok : SummOk Try.prog 90 (fneg0_S.summ fneg0_pre fneg0_F) := fneg0_main _ _ fun x oy hp ho => by
  rw [← ho]
  clear ho
  obtain ⟨⟨n, a, ⟨⟩⟩, ⟨⟩⟩ := x
  have hp' : numOk n = true := hp
  refine (gd_run ?_).trans ?_
  · simp only [List.all_cons, List.all_nil, Bool.and_true, Bool.and_eq_true]
    exact ⟨hp', hp'⟩
  · simp only [fneg0_F, negP_eq (numOk_pos hp')]
def fneg0_summ : Summ := (fneg0_S.summ fneg0_pre fneg0_F)
theorem fneg0_known : SummOk Try.prog 90 fneg0_summ := fneg0_ok
theorem fneg0_smono : MonoOk fneg0_summ := fn_mono
def E_fneg0 : Env := envCons 90 fneg0_summ E_fadd0
theorem E_fneg0_ok : EnvOk Try.prog E_fneg0 := envOk_cons fneg0_known E_fadd0_ok
theorem E_fneg0_mono : EnvMono E_fneg0 := envMono_cons fneg0_smono E_fadd0_mono
theorem E_fneg0_any : AnyOk Try.prog te E_fneg0 := any_ok follows te_ok E_fneg0_ok E_fneg0_mono
def fadd_S : FnSpec := ⟨[.val false .int, .val true .elem, .val true .elem], [], true, 0, false⟩
abbrev faddX : Type := ((Int) × (Elem) × (Elem) × Unit) × (Unit)
def fadd_o0 : OutSh := ⟨[.val true .elem], [], false⟩
def fadd_sel : SV → Option OutSh := fun _ => some fadd_o0
def fadd_T (a0 : Int) (a1 : Elem) (a2 : Elem) : OT fadd_S.Y :=
  let z0 : Elem × Int × UInt64 × UInt64 × Elem := numOf (Int.toNat a0)
  (.br (sortOk a0)
  (gd [fadd0_pre ((z0, a1, a2, ()), ())] (.ok ⟨fadd_o0, ((addP (Elem.nat z0.fst) a1 a2, ()), ())⟩))
  (.ok ⟨fadd_o0, (({ w0 := 0, w1 := 0, w2 := 0, w3 := 0 }, ()), ())⟩))
theorem fadd_q (x : faddX) (Q : fadd_S.Y → Prop) : wpf te E_fneg0 lamNil 1000 Try.f47 (fadd_S.inp.inj x).tm (fadd_S.inp.inj x).hp (fnK fadd_S fadd_sel Q) (fun _ _ => False) = (fadd_T (x.1.1) (x.1.2.1) (x.1.2.2.1)).wpR Q := by kernel_rfl
theorem fadd_main (pre : faddX → Bool) (F : faddX → OT fadd_S.Y) (hF : ∀ (x : faddX) oy, pre x = true → (F x).run = some oy → (fadd_T (x.1.1) (x.1.2.1) (x.1.2.2.1)).run = some oy) : SummOk Try.prog 47 (fadd_S.summ pre F) :=
  fn_tree te_ok E_fneg0_ok E_fneg0_any (f := 47) (fn := Try.f47) (c := codeOf Try.f47) (by kernel_rfl) (by kernel_rfl) (by kernel_rfl) (S := fadd_S) (k := 0) (by kernel_rfl) (fun R hR => lamOk_nil) (n := 1000) (sel := fadd_sel) (fun v o h => by cases h; rfl) (pre := pre) (F := F) (T := fun x => fadd_T (x.1.1) (x.1.2.1) (x.1.2.2.1)) (fun x Q => fadd_q x Q) hF
def fadd_pre (_ : faddX) : Bool := true
def fadd_F (x : faddX) : OT fadd_S.Y := .br (sortOk x.1.1) (.ok ⟨fadd_o0, ((addP (pS x.1.1) x.1.2.1 x.1.2.2.1, ()), ())⟩) (.ok ⟨fadd_o0, ((⟨0, 0, 0, 0⟩, ()), ())⟩)
theorem fadd_ok : SummOk Try.prog 47 (fadd_S.summ fadd_pre fadd_F) := fadd_main _ _ fun x oy hp ho => by
  rw [← ho]
  clear ho
  obtain ⟨⟨s, a, b, ⟨⟩⟩, ⟨⟩⟩ := x
  cases hs : sortOk s
  · exact (OT.run_f hs).trans (OT.run_f (b := sortOk s) hs).symm
  · refine (OT.run_t hs).trans ((gd_run ?_).trans (OT.run_t (b := sortOk s) hs).symm)
    simp only [List.all_cons, List.all_nil, Bool.and_true]
    exact numOk_of hs
def fadd_summ : Summ := (fadd_S.summ fadd_pre fadd_F)
theorem fadd_known : SummOk Try.prog 47 fadd_summ := fadd_ok
theorem fadd_smono : MonoOk fadd_summ := fn_mono
def E_fadd : Env := envCons 47 fadd_summ E_fneg0
theorem E_fadd_ok : EnvOk Try.prog E_fadd := envOk_cons fadd_known E_fneg0_ok
theorem E_fadd_mono : EnvMono E_fadd := envMono_cons fadd_smono E_fneg0_mono
theorem E_fadd_any : AnyOk Try.prog te E_fadd := any_ok follows te_ok E_fadd_ok E_fadd_mono
def fneg_S : FnSpec := ⟨[.val false .int, .val true .elem], [], true, 0, false⟩
abbrev fnegX : Type := ((Int) × (Elem) × Unit) × (Unit)
def fneg_o0 : OutSh := ⟨[.val true .elem], [], false⟩
def fneg_sel : SV → Option OutSh := fun _ => some fneg_o0
def fneg_T (a0 : Int) (a1 : Elem) : OT fneg_S.Y :=
  let z0 : Elem × Int × UInt64 × UInt64 × Elem := numOf (Int.toNat a0)
  (.br (sortOk a0)
  (gd [fneg0_pre ((z0, a1, ()), ())] (.ok ⟨fneg_o0, ((negP (Elem.nat z0.fst) a1, ()), ())⟩))
  (.ok ⟨fneg_o0, (({ w0 := 0, w1 := 0, w2 := 0, w3 := 0 }, ()), ())⟩))
theorem fneg_q (x : fnegX) (Q : fneg_S.Y → Prop) : wpf te E_fadd lamNil 1000 Try.f56 (fneg_S.inp.inj x).tm (fneg_S.inp.inj x).hp (fnK fneg_S fneg_sel Q) (fun _ _ => False) = (fneg_T (x.1.1) (x.1.2.1)).wpR Q := by kernel_rfl
theorem fneg_main (pre : fnegX → Bool) (F : fnegX → OT fneg_S.Y) (hF : ∀ (x : fnegX) oy, pre x = true → (F x).run = some oy → (fneg_T (x.1.1) (x.1.2.1)).run = some oy) : SummOk Try.prog 56 (fneg_S.summ pre F) :=
  fn_tree te_ok E_fadd_ok E_fadd_any (f := 56) (fn := Try.f56) (c := codeOf Try.f56) (by kernel_rfl) (by kernel_rfl) (by kernel_rfl) (S := fneg_S) (k := 0) (by kernel_rfl) (fun R hR => lamOk_nil) (n := 1000) (sel := fneg_sel) (fun v o h => by cases h; rfl) (pre := pre) (F := F) (T := fun x => fneg_T (x.1.1) (x.1.2.1)) (fun x Q => fneg_q x Q) hF
def fneg_pre (_ : fnegX) : Bool := true
def fneg_F (x : fnegX) : OT fneg_S.Y := .br (sortOk x.1.1) (.ok ⟨fneg_o0, ((negP (pS x.1.1) x.1.2.1, ()), ())⟩) (.ok ⟨fneg_o0, ((⟨0, 0, 0, 0⟩, ()), ())⟩)
theorem fneg_ok : SummOk Try.prog 56 (fneg_S.summ fneg_pre fneg_F) := fneg_main _ _ fun x oy hp ho => by
  rw [← ho]
  clear ho
  obtain ⟨⟨s, a, ⟨⟩⟩, ⟨⟩⟩ := x
  cases hs : sortOk s
  · exact (OT.run_f hs).trans (OT.run_f (b := sortOk s) hs).symm
  · refine (OT.run_t hs).trans ((gd_run ?_).trans (OT.run_t (b := sortOk s) hs).symm)
    simp only [List.all_cons, List.all_nil, Bool.and_true]
    exact numOk_of hs
def fneg_summ : Summ := (fneg_S.summ fneg_pre fneg_F)
theorem fneg_known : SummOk Try.prog 56 fneg_summ := fneg_ok
theorem fneg_smono : MonoOk fneg_summ := fn_mono
def E_fneg : Env := envCons 56 fneg_summ E_fadd
theorem E_fneg_ok : EnvOk Try.prog E_fneg := envOk_cons fneg_known E_fadd_ok
theorem E_fneg_mono : EnvMono E_fneg := envMono_cons fneg_smono E_fadd_mono
theorem E_fneg_any : AnyOk Try.prog te E_fneg := any_ok follows te_ok E_fneg_ok E_fneg_mono
def fsub_S : FnSpec := ⟨[.val false .int, .val true .elem, .val true .elem], [], true, 0, false⟩
abbrev fsubX : Type := ((Int) × (Elem) × (Elem) × Unit) × (Unit)
def fsub_o0 : OutSh := ⟨[.val true .elem], [], false⟩
def fsub_sel : SV → Option OutSh := fun _ => some fsub_o0
def fsub_T (a0 : Int) (a1 : Elem) (a2 : Elem) : OT fsub_S.Y :=
  let z0 : Bool := sortOk a0
  let z1 : Nat := pS a0
  let z2 : Elem := { w0 := 0, w1 := 0, w2 := 0, w3 := 0 }
  (.br (z0)
  (.br (z0)
    (.ok ⟨fsub_o0, ((addP z1 a1 (negP z1 a2), ()), ())⟩)
    (.ok ⟨fsub_o0, ((z2, ()), ())⟩))
  (.br (z0)
    (.ok ⟨fsub_o0, ((addP z1 a1 z2, ()), ())⟩)
    (.ok ⟨fsub_o0, ((z2, ()), ())⟩)))
theorem fsub_q (x : fsubX) (Q : fsub_S.Y → Prop) : wpf te E_fneg lamNil 1000 Try.f20 (fsub_S.inp.inj x).tm (fsub_S.inp.inj x).hp (fnK fsub_S fsub_sel Q) (fun _ _ => False) = (fsub_T (x.1.1) (x.1.2.1) (x.1.2.2.1)).wpR Q := by kernel_rfl
theorem fsub_main (pre : fsubX → Bool) (F : fsubX → OT fsub_S.Y) (hF : ∀ (x : fsubX) oy, pre x = true → (F x).run = some oy → (fsub_T (x.1.1) (x.1.2.1) (x.1.2.2.1)).run = some oy) : SummOk Try.prog 20 (fsub_S.summ pre F) :=
  fn_tree te_ok E_fneg_ok E_fneg_any (f := 20) (fn := Try.f20) (c := codeOf Try.f20) (by kernel_rfl) (by kernel_rfl) (by kernel_rfl) (S := fsub_S) (k := 0) (by kernel_rfl) (fun R hR => lamOk_nil) (n := 1000) (sel := fsub_sel) (fun v o h => by cases h; rfl) (pre := pre) (F := F) (T := fun x => fsub_T (x.1.1) (x.1.2.1) (x.1.2.2.1)) (fun x Q => fsub_q x Q) hF
def subP (p : Nat) (a b : Elem) : Elem := addP p a (negP p b)
def fsub_pre (_ : fsubX) : Bool := true
def fsub_F (x : fsubX) : OT fsub_S.Y := .br (sortOk x.1.1) (.ok ⟨fsub_o0, ((subP (pS x.1.1) x.1.2.1 x.1.2.2.1, ()), ())⟩) (.ok ⟨fsub_o0, ((⟨0, 0, 0, 0⟩, ()), ())⟩)
theorem fsub_ok : SummOk Try.prog 20 (fsub_S.summ fsub_pre fsub_F) := fsub_main _ _ fun x oy hp ho => by
  rw [← ho]
  clear ho
  obtain ⟨⟨s, a, b, ⟨⟩⟩, ⟨⟩⟩ := x
  cases hs : sortOk s
  · exact (OT.run_f hs).trans ((OT.run_f hs).trans (OT.run_f (b := sortOk s) hs).symm)
  · exact (OT.run_t hs).trans ((OT.run_t hs).trans (OT.run_t (b := sortOk s) hs).symm)
def fsub_summ : Summ := (fsub_S.summ fsub_pre fsub_F)
theorem fsub_known : SummOk Try.prog 20 fsub_summ := fsub_ok
theorem fsub_smono : MonoOk fsub_summ := fn_mono
def E_fsub : Env := envCons 20 fsub_summ E_fneg
theorem E_fsub_ok : EnvOk Try.prog E_fsub := envOk_cons fsub_known E_fneg_ok
theorem E_fsub_mono : EnvMono E_fsub := envMono_cons fsub_smono E_fneg_mono
theorem E_fsub_any : AnyOk Try.prog te E_fsub := any_ok follows te_ok E_fsub_ok E_fsub_mono
end Go.Proofs.Ytkedomfjjahjnaa

namespace Go.Proofs.Ytkedomfjjahjnaa
open Sx Go
abbrev W64 : Nat := 18446744073709551616
def l6 (n : Nat) : List UInt64 := [UInt64.ofNat n, UInt64.ofNat (n / 18446744073709551616), UInt64.ofNat (n / 18446744073709551616 / 18446744073709551616), UInt64.ofNat (n / 18446744073709551616 / 18446744073709551616 / 18446744073709551616),
  UInt64.ofNat (n / 18446744073709551616 / 18446744073709551616 / 18446744073709551616 / 18446744073709551616), UInt64.ofNat (n / 18446744073709551616 / 18446744073709551616 / 18446744073709551616 / 18446744073709551616 / 18446744073709551616)]
def v6 (l : List UInt64) : Nat := (l.getD 0 0).toNat + 18446744073709551616 * ((l.getD 1 0).toNat + 18446744073709551616 * ((l.getD 2 0).toNat + 18446744073709551616 * ((l.getD 3 0).toNat + 18446744073709551616 * ((l.getD 4 0).toNat + 18446744073709551616 * (l.getD 5 0).toNat))))
theorem ofNat_of_mod {m : Nat} {x : UInt64} (hm : m % 18446744073709551616 = x.toNat) : UInt64.ofNat m = x := by
  rw [← UInt64.toNat_inj, UInt64.toNat_ofNat']
  exact hm
theorem l6_eq {n : Nat} {a b c d e : UInt64} {k : Nat} {f : UInt64} (h : n = a.toNat + 18446744073709551616 * (b.toNat + 18446744073709551616 * (c.toNat + 18446744073709551616 * (d.toNat + 18446744073709551616 * (e.toNat + 18446744073709551616 * k))))) (hf : k % 18446744073709551616 = f.toNat) : l6 n = [a, b, c, d, e, f] := by
  obtain ⟨h1, h0⟩ := div_eq a.toNat_lt h
  obtain ⟨h2, h3⟩ := div_eq b.toNat_lt h1
  obtain ⟨h4, h5⟩ := div_eq c.toNat_lt h2
  obtain ⟨h6, h7⟩ := div_eq d.toNat_lt h4
  obtain ⟨h8, h9⟩ := div_eq e.toNat_lt h6
  unfold l6
  rw [ofNat_of_mod (x := a) h0, ofNat_of_mod (x := b) h3, ofNat_of_mod (x := c) h5, ofNat_of_mod (x := d) h7, ofNat_of_mod (x := e) h9, ofNat_of_mod (x := f) (by rw [h8]; exact hf)]
theorem l6_length (n : Nat) : (l6 n).length = 6 := rfl
def accL (t a x c : UInt64) : UInt64 := addC t (addC (a * x) c 0) 0
def accC (t a x c : UInt64) : UInt64 := mulH a x + addK (a * x) c 0 + addK t (addC (a * x) c 0) 0
theorem acc_num {t P p h c l k1 r k2 W : Nat} (hP : P = p + W * h) (h1 : p + c = l + W * k1) (h2 : t + l = r + W * k2) : t + P + c = r + W * (h + k1 + k2) := by
  rw [Nat.mul_add, Nat.mul_add]
  omega
theorem acc_bound {t P c r q W : Nat} (hW : 0 < W) (ht : t ≤ W - 1) (hc : c ≤ W - 1) (hP : P ≤ (W - 1) * (W - 1)) (h : t + P + c = r + W * q) : q < W := by
  obtain ⟨V, rfl⟩ : ∃ V, W = V + 1 := ⟨W - 1, by omega⟩
  rw [Nat.add_sub_cancel] at *
  refine Nat.lt_of_not_le fun hq => ?_
  have h1 : (V + 1) * (V + 1) ≤ (V + 1) * q := Nat.mul_le_mul_left _ hq
  have h2 : (V + 1) * (V + 1) = V * V + V + V + 1 := by rw [Nat.add_mul, Nat.mul_add, Nat.one_mul, Nat.mul_one]; omega
  omega
theorem mulH_nat (a x : UInt64) : (mulH a x).toNat = a.toNat * x.toNat / 18446744073709551616 := by
  have ha := a.toNat_lt
  have hx := x.toNat_lt
  have : a.toNat * x.toNat / 18446744073709551616 < 18446744073709551616 := by
    rw [Nat.div_lt_iff_lt_mul (by omega)]
    exact Nat.mul_lt_mul'' ha hx
  unfold mulH
  rw [UInt64.toNat_ofNat', Nat.mod_eq_of_lt this]
theorem acc_step (t a x c : UInt64) : t.toNat + a.toNat * x.toNat + c.toNat = (accL t a x c).toNat + 18446744073709551616 * (accC t a x c).toNat := by
  have hP : a.toNat * x.toNat = (a * x).toNat + 18446744073709551616 * (mulH a x).toNat := by
    rw [mulH_nat, UInt64.toNat_mul]
    exact (Nat.mod_add_div _ _).symm
  have h1 := addC_step (a * x) c 0
  have h2 := addC_step t (addC (a * x) c 0) 0
  rw [show (0 : UInt64).toNat = 0 from rfl, Nat.add_zero] at h1 h2
  have key := acc_num hP h1 h2
  have hb := acc_bound (W := 18446744073709551616) (by omega) (Nat.le_sub_one_of_lt t.toNat_lt) (Nat.le_sub_one_of_lt c.toNat_lt) (Nat.mul_le_mul (Nat.le_sub_one_of_lt a.toNat_lt) (Nat.le_sub_one_of_lt x.toNat_lt)) key
  have e : (accC t a x c).toNat = (mulH a x).toNat + (addK (a * x) c 0).toNat + (addK t (addC (a * x) c 0) 0).toNat := by
    unfold accC
    rw [UInt64.toNat_add, UInt64.toNat_add, Nat.mod_add_mod]
    exact Nat.mod_eq_of_lt hb
  rw [e]
  exact key
theorem acc_join {t a x c s k T A R W : Nat} (h1 : t + a * x + c = s + W * k) (h2 : T + A * x + k = R) : (t + W * T) + (a + W * A) * x + c = s + W * R := by
  rw [Nat.add_mul, Nat.mul_assoc, ← h2, Nat.mul_add, Nat.mul_add]
  omega
def accW (t0 t1 t2 t3 t4 t5 : UInt64) (a : Elem) (x : UInt64) : List UInt64 :=
  let k0 := accC t0 a.w0 x 0
  let k1 := accC t1 a.w1 x k0
  let k2 := accC t2 a.w2 x k1
  let k3 := accC t3 a.w3 x k2
  [accL t0 a.w0 x 0, accL t1 a.w1 x k0, accL t2 a.w2 x k1, accL t3 a.w3 x k2, addC t4 k3 0, t5 + addK t4 k3 0]
theorem accW_eq (t0 t1 t2 t3 t4 t5 : UInt64) (a : Elem) (x : UInt64) : accW t0 t1 t2 t3 t4 t5 a x = l6 (v6 [t0, t1, t2, t3, t4, t5] + a.nat * x.toNat) := by
  have h4 := addC_step t4 (accC t3 a.w3 x (accC t2 a.w2 x (accC t1 a.w1 x (accC t0 a.w0 x 0)))) 0
  rw [show (0 : UInt64).toNat = 0 from rfl, Nat.add_zero] at h4
  have h5 : (t4.toNat + 18446744073709551616 * t5.toNat) + 0 * x.toNat + (accC t3 a.w3 x (accC t2 a.w2 x (accC t1 a.w1 x (accC t0 a.w0 x 0)))).toNat =
      (addC t4 (accC t3 a.w3 x (accC t2 a.w2 x (accC t1 a.w1 x (accC t0 a.w0 x 0)))) 0).toNat + 18446744073709551616 * (t5.toNat + (addK t4 (accC t3 a.w3 x (accC t2 a.w2 x (accC t1 a.w1 x (accC t0 a.w0 x 0)))) 0).toNat) := by
    rw [Nat.zero_mul, Nat.mul_add]
    omega
  have h := acc_join (acc_step t0 a.w0 x 0) (acc_join (acc_step t1 a.w1 x _) (acc_join (acc_step t2 a.w2 x _) (acc_join (acc_step t3 a.w3 x _) h5)))
  rw [show (0 : UInt64).toNat = 0 from rfl, Nat.add_zero, Nat.mul_zero, Nat.add_zero] at h
  exact (l6_eq (f := t5 + addK t4 (accC t3 a.w3 x (accC t2 a.w2 x (accC t1 a.w1 x (accC t0 a.w0 x 0)))) 0) h (by rw [UInt64.toNat_add])).symm
end Go.Proofs.Ytkedomfjjahjnaa

namespace Go.Proofs.Ytkedomfjjahjnaa
open Sx Go
set_option maxRecDepth 100000
def facc_S : FnSpec := ⟨[.val true (.arr 6 .u64), .val true .elem, .val false .u64], [], true, 0, false⟩
abbrev faccX : Type := ((List (UInt64)) × (Elem) × (UInt64) × Unit) × (Unit)
def facc_s0 : Shape := ⟨61, [(2, .val false .u64), (3, .ptr 0 0 0), (4, .ptr 1 0 0), (6, .ptr 2 0 0), (7, .val false .u64), (13, .val false .int)], [(0, .row .u64), (1, .row .u64), (2, .row .u64)], 0, true⟩
abbrev facc_s0X : Type := ((UInt64) × (Unit) × (Unit) × (Unit) × (UInt64) × (Int) × Unit) × ((List (UInt64)) × (List (UInt64)) × (List (UInt64)) × Unit)
def facc_e0_0 : Shape := ⟨61, [(3, .ptr 0 0 0), (6, .ptr 1 0 0), (7, .val false .u64)], [(0, .row .u64), (1, .row .u64)], 0, true⟩
abbrev facc_e0_0X : Type := ((Unit) × (Unit) × (UInt64) × Unit) × ((List (UInt64)) × (List (UInt64)) × Unit)
def facc_x0 : SE → Option Shape := xsMk [(0, facc_e0_0)] none
def facc_T0 (a2 : UInt64) (a7 : UInt64) (a13 : Int) (c0 : List (UInt64)) (c1 : List (UInt64)) (c2 : List (UInt64)) : OT (Sum facc_s0X LEnd) :=
  let z0 : Bool := inB a13 6
  let z1 : Bool := decide (Int.toNat a13 + 0 < List.length c0)
  let z2 : UInt64 := List.getD c1 (Int.toNat a13 + 0) (0 : UInt64)
  let z3 : UInt64 := List.getD c0 (Int.toNat a13 + 0) (0 : UInt64)
  let z4 : UInt64 := addC (z2 * a2) a7 (0 : UInt64)
  (.br (decide (a13 < (4 : Int)))
  (gd [inB a13 4, decide (Int.toNat a13 + 0 < List.length c1), z0, z1, z0, z1, inR (a13 + (1 : Int))] (.ok (.inl ((a2, ((), ((), ((), (mulH z2 a2 + addK (z2 * a2) a7 (0 : UInt64) + addK z3 z4 (0 : UInt64), (a13 + (1 : Int), ())))))), (List.set c0 (Int.toNat a13 + 0) (addC z3 z4 (0 : UInt64)), (c1, (c2, ())))))))
  (.ok (.inr ⟨(.exit 0, facc_e0_0), (((), ((), (a7, ()))), (c0, (c2, ())))⟩)))
def facc_U0 (s : facc_s0X) : OT (Sum facc_s0X LEnd) := facc_T0 (s.1.1) (s.1.2.2.2.2.1) (s.1.2.2.2.2.2.1) (s.2.1) (s.2.2.1) (s.2.2.2.1)
theorem facc_q0 (s : facc_s0X) (Q : Sum facc_s0X LEnd → Prop) : wps te E_fsub lamNil 1000 (loopOf (codeOf Try.f115) 0) (facc_s0.inj s) (stepK facc_s0 facc_x0 (Q : Sum facc_s0.T LEnd → Prop)) = (facc_U0 s).wpR Q := by kernel_rfl
def facc_f0 (g0_0 : facc_s0X → facc_e0_0X) (s : facc_s0X) : OT LEnd := (.ok ⟨(.exit 0, facc_e0_0), g0_0 s⟩)
def facc_o0 : OutSh := ⟨[.val true (.arr 6 .u64)], [], false⟩
def facc_sel : SV → Option OutSh := fun _ => some facc_o0
def facc_T (ok0 : facc_s0X → Bool) (g0_0 : facc_s0X → facc_e0_0X) (a0 : List (UInt64)) (a1 : Elem) (a2 : UInt64) : OT facc_S.Y :=
  let z0 : (UInt64 × PUnit × PUnit × PUnit × UInt64 × Int × PUnit) × List UInt64 × List UInt64 × List UInt64 × PUnit := ((a2, (), (), (), (0 : UInt64), (0 : Int), ()), tab a0 6 (0 : UInt64), [a1.w0, a1.w1, a1.w2, a1.w3], [(0 : UInt64), (0 : UInt64), (0 : UInt64), (0 : UInt64), (0 : UInt64), (0 : UInt64)], ())
  let z1 : (PUnit × PUnit × UInt64 × PUnit) × List UInt64 × List UInt64 × PUnit := g0_0 z0
  let z2 := z1.snd
  let z3 := z2.fst
  let z4 : Bool := decide (4 < List.length z3)
  let z5 : UInt64 := List.getD z3 4 0
  let z6 := z1.fst.snd.snd.fst
  let z7 : List UInt64 := List.set z3 4 (addC z5 z6 (0 : UInt64))
  let z8 : Bool := decide (5 < List.length z7)
  let z9 : List UInt64 := List.set z7 5 (List.getD z7 5 0 + addK z5 z6 (0 : UInt64))
  let z10 := z2.snd.fst
  let z11 : List UInt64 := lay z10 z9 6 (0 : UInt64)
  (gd [ok0 z0, z4, z4, z8, z8, decide (6 ≤ List.length z9), decide ((6 / 1 : Nat) + 0 ≤ List.length z10), decide (6 ≤ List.length z11)] (.ok ⟨facc_o0, ((tab z11 6 (0 : UInt64), ()), ())⟩))
theorem facc_q (ok0 : facc_s0X → Bool) (g0_0 : facc_s0X → facc_e0_0X) (x : faccX) (Q : facc_S.Y → Prop) : wpf te E_fsub (lamCons 0 (loopF facc_s0 0 ok0 (facc_f0 g0_0)) lamNil) 1000 Try.f115 (facc_S.inp.inj x).tm (facc_S.inp.inj x).hp (fnK facc_S facc_sel Q) (fun _ _ => False) = (facc_T ok0 g0_0 (x.1.1) (x.1.2.1) (x.1.2.2.1)).wpR Q := by kernel_rfl
theorem facc_main (ok0 : facc_s0X → Bool) (g0_0 : facc_s0X → facc_e0_0X) (h0 : ∀ s : facc_s0X, ok0 s = true → ∃ m e, loopRun (facc_U0) m s = some e ∧ (facc_f0 g0_0 s).run = some e) (pre : faccX → Bool) (F : faccX → OT facc_S.Y) (hF : ∀ (x : faccX) oy, pre x = true → (F x).run = some oy → (facc_T ok0 g0_0 (x.1.1) (x.1.2.1) (x.1.2.2.1)).run = some oy) : SummOk Try.prog 115 (facc_S.summ pre F) :=
  fn_tree te_ok E_fsub_ok E_fsub_any (f := 115) (fn := Try.f115) (c := codeOf Try.f115) (by kernel_rfl) (by kernel_rfl) (by kernel_rfl) (S := facc_S) (k := 0) (by kernel_rfl) (fun R hR => (lamOk_cons (c := (codeOf Try.f115)) (by kernel_rfl) (id := 0) (by kernel_rfl) (loop_ok te_ok E_fsub_ok E_fsub_any (sh := facc_s0) hR (xs := facc_x0) (xsMk_small (by kernel_rfl) (by kernel_rfl) hR) xsMk_pan lamOk_nil (n := 1000) (T := facc_U0) (fun s Q => facc_q0 s Q) (ok := ok0) (f := facc_f0 g0_0) h0) lamOk_nil)) (n := 1000) (sel := facc_sel) (fun v o h => by cases h; rfl) (pre := pre) (F := F) (T := fun x => facc_T ok0 g0_0 (x.1.1) (x.1.2.1) (x.1.2.2.1)) (fun x Q => facc_q ok0 g0_0 x Q) hF
def accSt (a : List UInt64) (x : UInt64) (k : Nat) (s : List UInt64 × UInt64) : List UInt64 × UInt64 := (s.1.set k (accL (s.1.getD k 0) (a.getD k 0) x s.2), accC (s.1.getD k 0) (a.getD k 0) x s.2)
def facc_ok0 (s : facc_s0X) : Bool := decide (s.1.2.2.2.2.1 = 0 ∧ s.1.2.2.2.2.2.1 = 0 ∧ s.2.1.length = 6 ∧ s.2.2.1.length = 4)
def facc_g0 (s : facc_s0X) : facc_e0_0X := (((), (), (upto (accSt s.2.2.1 s.1.1) (s.2.1, 0) 4).2, ()), ((upto (accSt s.2.2.1 s.1.1) (s.2.1, 0) 4).1, s.2.2.2.1, ()))
theorem facc_h0 : ∀ s : facc_s0X, facc_ok0 s = true → ∃ m e, loopRun facc_U0 m s = some e ∧ (facc_f0 facc_g0 s).run = some e := by
  rintro ⟨⟨x, ⟨⟩, ⟨⟩, ⟨⟩, c, i, ⟨⟩⟩, ⟨t, a, o, ⟨⟩⟩⟩ h
  have h' := of_decide_eq_true h
  dsimp only at h'
  obtain ⟨rfl, rfl, ht, ha⟩ := h'
  have := (loop_upto (T := facc_U0) (fun k s => (((x, (), (), (), s.2, (k : Int), ()), (s.1, a, o, ())) : facc_s0X)) (accSt a x)
    (fun s => (⟨(.exit 0, facc_e0_0), (((), (), s.2, ()), (s.1, o, ()))⟩ : LEnd)) 4 (t, 0) (fun _ s => s.1.length = 6) ht (fun k s hk hs => ⟨?_, ?_⟩) (fun s hs => ?_)).1
  · obtain ⟨m, hm⟩ := this
    exact ⟨m, _, hm, rfl⟩
  · refine (OT.run_t (decide_eq_true (by dsimp only; omega))).trans ((gd_run ?_).trans ?_)
    · simp only [Int.toNat_natCast, Nat.add_zero, hs, ha, List.all_cons, List.all_nil, Bool.and_true, Bool.and_eq_true]
      exact ⟨inB_of (by omega), decide_eq_true (by omega), inB_of (by omega), decide_eq_true (by omega), inB_of (by omega), decide_eq_true (by omega), inR_of (by omega)⟩
    · simp only [OT.run_ok, Int.toNat_natCast, Nat.add_zero]
      rfl
  · simp only [accSt, List.length_set]
    exact hs
  · exact OT.run_f (decide_eq_false (by dsimp only; omega))
def facc_pre (_ : faccX) : Bool := true
def facc_F (x : faccX) : OT facc_S.Y := .ok ⟨facc_o0, ((l6 (v6 x.1.1 + x.1.2.1.nat * x.1.2.2.1.toNat), ()), ())⟩
theorem facc_ok : SummOk Try.prog 115 (facc_S.summ facc_pre facc_F) := facc_main facc_ok0 facc_g0 facc_h0 _ _ fun x oy hp ho => by
  rw [← ho]
  clear ho
  obtain ⟨⟨t, a, x, ⟨⟩⟩, ⟨⟩⟩ := x
  refine (gd_run ?_).trans ?_
  · simp only [List.all_cons, List.all_nil, Bool.and_true, Bool.and_eq_true]
    exact ⟨rfl, rfl, rfl, rfl, rfl, rfl, rfl, rfl⟩
  · have e := accW_eq (t.getD 0 0) (t.getD 1 0) (t.getD 2 0) (t.getD 3 0) (t.getD 4 0) (t.getD 5 0) a x
    have e2 : l6 (v6 t + a.nat * x.toNat) = accW (t.getD 0 0) (t.getD 1 0) (t.getD 2 0) (t.getD 3 0) (t.getD 4 0) (t.getD 5 0) a x := e.symm
    simp only [facc_F, e2]
    rfl
def facc_summ : Summ := (facc_S.summ facc_pre facc_F)
theorem facc_known : SummOk Try.prog 115 facc_summ := facc_ok
theorem facc_smono : MonoOk facc_summ := fn_mono
def E_facc : Env := envCons 115 facc_summ E_fsub
theorem E_facc_ok : EnvOk Try.prog E_facc := envOk_cons facc_known E_fsub_ok
theorem E_facc_mono : EnvMono E_facc := envMono_cons facc_smono E_fsub_mono
theorem E_facc_any : AnyOk Try.prog te E_facc := any_ok follows te_ok E_facc_ok E_facc_mono
end Go.Proofs.Ytkedomfjjahjnaa

namespace Go.Proofs.Ytkedomfjjahjnaa
open Sx Go
theorem v6_l6 {n : Nat} (h : n / 18446744073709551616 / 18446744073709551616 / 18446744073709551616 / 18446744073709551616 / 18446744073709551616 < 18446744073709551616) : v6 (l6 n) = n := by
  unfold v6 l6
  simp only [List.getD_cons_zero, List.getD_cons_succ, UInt64.toNat_ofNat']
  rw [show (2 : Nat) ^ 64 = 18446744073709551616 from rfl]
  omega
def rstep (p neg a : Nat) (b t : Nat) : Nat := (t + a * b + p * ((t + a * b) * neg % 18446744073709551616)) / 18446744073709551616
theorem rstep_eq {p neg a b t : Nat} (hn : (p * neg + 1) % 18446744073709551616 = 0) : 18446744073709551616 * rstep p neg a b t = t + a * b + p * ((t + a * b) * neg % 18446744073709551616) := by
  unfold rstep
  refine Nat.mul_div_cancel' (Nat.dvd_of_mod_eq_zero ?_)
  generalize t + a * b = u
  rw [Nat.add_mod, Nat.mul_mod, Nat.mod_mod, ← Nat.mul_mod, ← Nat.add_mod]
  have : u + p * (u * neg) = u * (p * neg + 1) := by
    rw [Nat.mul_add, Nat.mul_one, Nat.mul_left_comm]
    omega
  rw [this, Nat.mul_mod, hn, Nat.mul_zero, Nat.zero_mod]
theorem rstep_lt {p neg a b t : Nat} (hn : (p * neg + 1) % 18446744073709551616 = 0) (ht : t < 2 * p) (ha : a < p) (hb : b < 18446744073709551616) : rstep p neg a b t < 2 * p := by
  have h := rstep_eq (a := a) (b := b) (t := t) hn
  have hm : (t + a * b) * neg % 18446744073709551616 ≤ 18446744073709551615 := by
    have := Nat.mod_lt ((t + a * b) * neg) (show 0 < 18446744073709551616 by omega)
    omega
  have h1 : p * ((t + a * b) * neg % 18446744073709551616) ≤ p * 18446744073709551615 := Nat.mul_le_mul_left _ hm
  have h2 : a * b ≤ p * 18446744073709551615 := Nat.mul_le_mul (by omega) (by omega)
  omega
theorem rjoin {p a b t t1 m K T B M W : Nat} (h1 : W * t1 = t + a * b + p * m) (h2 : K * T = t1 + a * B + p * M) : (W * K) * T = t + a * (b + W * B) + p * (m + W * M) := by
  have e : (W * K) * T = W * t1 + W * (a * B) + W * (p * M) := by rw [Nat.mul_assoc, h2, Nat.mul_add, Nat.mul_add]
  rw [e, h1, Nat.mul_add, Nat.mul_add, Nat.mul_left_comm a W, Nat.mul_left_comm p W]
  omega
theorem rmod {p a b T K M r : Nat} (h : K * T = a * b + p * M) (hr : K * r % p = 1 % p) : T % p = a * b * r % p := by
  have h1 : (K * T) * r = a * b * r + p * (M * r) := by rw [h, Nat.add_mul, Nat.mul_assoc p]
  have h2 : a * b * r % p = (K * T * r) % p := by rw [h1, Nat.add_mul_mod_self_left]
  have h3 : K * T * r = T * (K * r) := by rw [Nat.mul_comm K T, Nat.mul_assoc]
  rw [h2, h3, Nat.mul_mod, hr, ← Nat.mul_mod, Nat.mul_one]
def mont (p neg a : Nat) (b : Elem) : Nat := rstep p neg a b.w3.toNat (rstep p neg a b.w2.toNat (rstep p neg a b.w1.toNat (rstep p neg a b.w0.toNat 0)))
theorem mont_mod {p neg a r : Nat} {b : Elem} (hn : (p * neg + 1) % 18446744073709551616 = 0) (hr : 115792089237316195423570985008687907853269984665640564039457584007913129639936 * r % p = 1 % p) : mont p neg a b % p = a * b.nat * r % p := by
  have h := rjoin (rstep_eq (a := a) (b := b.w0.toNat) (t := 0) hn) (rjoin (rstep_eq (a := a) (b := b.w1.toNat) hn) (rjoin (rstep_eq (a := a) (b := b.w2.toNat) hn) (show 18446744073709551616 * _ = _ + a * b.w3.toNat + p * _ from rstep_eq hn)))
  rw [Nat.zero_add] at h
  exact rmod (K := 18446744073709551616 * (18446744073709551616 * (18446744073709551616 * 18446744073709551616))) h hr
theorem mont_lt {p neg a : Nat} {b : Elem} (hn : (p * neg + 1) % 18446744073709551616 = 0) (ha : a < p) : mont p neg a b < 2 * p :=
  rstep_lt hn (rstep_lt hn (rstep_lt hn (rstep_lt hn (by omega) ha b.w0.toNat_lt) ha b.w1.toNat_lt) ha b.w2.toNat_lt) ha b.w3.toNat_lt
theorem mod_two {T p : Nat} (h : T < 2 * p) : T % p = if T < p then T else T - p := by
  split
  · exact Nat.mod_eq_of_lt ‹_›
  · rw [Nat.mod_eq_sub_mod (by omega), Nat.mod_eq_of_lt (by omega)]
end Go.Proofs.Ytkedomfjjahjnaa

namespace Go.Proofs.Ytkedomfjjahjnaa
open Sx Go
set_option maxRecDepth 100000
def fredc_S : FnSpec := ⟨[.val true (.prod .elem (.prod .int (.prod .u64 (.prod .u64 .elem)))), .val true .elem, .val true .elem], [], true, 0, false⟩
abbrev fredcX : Type := (((Elem × (Int × (UInt64 × (UInt64 × Elem))))) × (Elem) × (Elem) × Unit) × (Unit)
def fredc_s0 : Shape := ⟨61, [(3, .ptr 0 0 0), (4, .ptr 1 0 0), (6, .ptr 2 0 0), (7, .ptr 3 0 0), (13, .val true .elem), (14, .val false .int)], [(0, .cells [.val false .u64, .val false .u64, .val false .u64, .val false .u64, .val false .int, .val false .u64, .val false .u64, .val false .u64, .val false .u64, .val false .u64, .val false .u64]), (1, .row .u64), (2, .row .u64), (3, .row .u64)], 0, true⟩
abbrev fredc_s0X : Type := ((Unit) × (Unit) × (Unit) × (Unit) × (Elem) × (Int) × Unit) × (((UInt64) × (UInt64) × (UInt64) × (UInt64) × (Int) × (UInt64) × (UInt64) × (UInt64) × (UInt64) × (UInt64) × (UInt64) × Unit) × (List (UInt64)) × (List (UInt64)) × (List (UInt64)) × Unit)
def fredc_e0_0 : Shape := ⟨61, [(3, .ptr 0 0 0), (6, .ptr 1 0 0), (7, .ptr 2 0 0)], [(0, .cells [.val false .u64, .val false .u64, .val false .u64, .val false .u64, .val false .int, .val false .u64, .val false .u64, .val false .u64, .val false .u64, .val false .u64, .val false .u64]), (1, .row .u64), (2, .row .u64)], 0, true⟩
abbrev fredc_e0_0X : Type := ((Unit) × (Unit) × (Unit) × Unit) × (((UInt64) × (UInt64) × (UInt64) × (UInt64) × (Int) × (UInt64) × (UInt64) × (UInt64) × (UInt64) × (UInt64) × (UInt64) × Unit) × (List (UInt64)) × (List (UInt64)) × Unit)
def fredc_x0 : SE → Option Shape := xsMk [(0, fredc_e0_0)] none
def fredc_T0 (a13 : Elem) (a14 : Int) (c0_0 : UInt64) (c0_1 : UInt64) (c0_2 : UInt64) (c0_3 : UInt64) (c0_4 : Int) (c0_5 : UInt64) (c0_6 : UInt64) (c0_7 : UInt64) (c0_8 : UInt64) (c0_9 : UInt64) (c0_10 : UInt64) (c1 : List (UInt64)) (c2 : List (UInt64)) (c3 : List (UInt64)) : OT (Sum fredc_s0X LEnd) :=
  let z0 : Nat := List.length c3
  let z1 : List UInt64 := lay c3 (l6 (v6 (tab c3 6 (0 : UInt64)) + Elem.nat { w0 := List.getD c1 0 0, w1 := List.getD c1 1 0, w2 := List.getD c1 2 0, w3 := List.getD c1 3 0 } * UInt64.toNat (List.getD [a13.w0, a13.w1, a13.w2, a13.w3] (Int.toNat a14) (0 : UInt64)))) 6 (0 : UInt64)
  let z2 : Nat := List.length z1
  let z3 : List UInt64 := lay z1 (l6 (v6 (tab z1 6 (0 : UInt64)) + Elem.nat { w0 := c0_0, w1 := c0_1, w2 := c0_2, w3 := c0_3 } * UInt64.toNat (List.getD z1 0 0 * c0_6))) 6 (0 : UInt64)
  let z4 : Nat := List.length z3
  (.br (decide (a14 < (4 : Int)))
  (gd [inB a14 4, decide (6 ≤ z0), decide (4 ≤ List.length c1), decide ((6 / 1 : Nat) + 0 ≤ z0), decide (6 ≤ z2), decide (0 < z2), decide ((6 / 1 : Nat) + 0 ≤ z2), decide (1 < z4), decide (2 < z4), decide (3 < z4), decide (4 < z4), decide (5 < z4), decide ((6 / 1 : Nat) + 0 ≤ z4), inR (a14 + (1 : Int))] (.ok (.inl (((), ((), ((), ((), (a13, (a14 + (1 : Int), ())))))), ((c0_0, (c0_1, (c0_2, (c0_3, (c0_4, (c0_5, (c0_6, (c0_7, (c0_8, (c0_9, (c0_10, ()))))))))))), (c1, (c2, (List.set (List.set (List.set (List.set (List.set (List.set z3 0 (List.getD z3 1 0)) 1 (List.getD z3 2 0)) 2 (List.getD z3 3 0)) 3 (List.getD z3 4 0)) 4 (List.getD z3 5 0)) 5 (0 : UInt64), ()))))))))
  (.ok (.inr ⟨(.exit 0, fredc_e0_0), (((), ((), ((), ()))), ((c0_0, (c0_1, (c0_2, (c0_3, (c0_4, (c0_5, (c0_6, (c0_7, (c0_8, (c0_9, (c0_10, ()))))))))))), (c2, (c3, ()))))⟩)))
def fredc_U0 (s : fredc_s0X) : OT (Sum fredc_s0X LEnd) := fredc_T0 (s.1.2.2.2.2.1) (s.1.2.2.2.2.2.1) (s.2.1.1) (s.2.1.2.1) (s.2.1.2.2.1) (s.2.1.2.2.2.1) (s.2.1.2.2.2.2.1) (s.2.1.2.2.2.2.2.1) (s.2.1.2.2.2.2.2.2.1) (s.2.1.2.2.2.2.2.2.2.1) (s.2.1.2.2.2.2.2.2.2.2.1) (s.2.1.2.2.2.2.2.2.2.2.2.1) (s.2.1.2.2.2.2.2.2.2.2.2.2.1) (s.2.2.1) (s.2.2.2.1) (s.2.2.2.2.1)
theorem fredc_q0 (s : fredc_s0X) (Q : Sum fredc_s0X LEnd → Prop) : wps te E_facc lamNil 1000 (loopOf (codeOf Try.f110) 0) (fredc_s0.inj s) (stepK fredc_s0 fredc_x0 (Q : Sum fredc_s0.T LEnd → Prop)) = (fredc_U0 s).wpR Q := by kernel_rfl
def fredc_f0 (g0_0 : fredc_s0X → fredc_e0_0X) (s : fredc_s0X) : OT LEnd := (.ok ⟨(.exit 0, fredc_e0_0), g0_0 s⟩)
def fredc_o0 : OutSh := ⟨[.val true .elem], [], false⟩
def fredc_sel : SV → Option OutSh := fun _ => some fredc_o0
def fredc_T (ok0 : fredc_s0X → Bool) (g0_0 : fredc_s0X → fredc_e0_0X) (a0 : (Elem × (Int × (UInt64 × (UInt64 × Elem))))) (a1 : Elem) (a2 : Elem) : OT fredc_S.Y :=
  let z0 : (PUnit × PUnit × PUnit × PUnit × Elem × Int × PUnit) × (UInt64 × UInt64 × UInt64 × UInt64 × Int × UInt64 × UInt64 × UInt64 × UInt64 × UInt64 × UInt64 × PUnit) × List UInt64 × List UInt64 × List UInt64 × PUnit := (((), (), (), (), a2, (0 : Int), ()), (a0.fst.w0, a0.fst.w1, a0.fst.w2, a0.fst.w3, a0.snd.fst, a0.snd.snd.fst, a0.snd.snd.snd.fst, a0.snd.snd.snd.snd.w0, a0.snd.snd.snd.snd.w1, a0.snd.snd.snd.snd.w2, a0.snd.snd.snd.snd.w3, ()), [a1.w0, a1.w1, a1.w2, a1.w3], [(0 : UInt64), (0 : UInt64), (0 : UInt64), (0 : UInt64)], [(0 : UInt64), (0 : UInt64), (0 : UInt64), (0 : UInt64), (0 : UInt64), (0 : UInt64)], ())
  let z1 := (g0_0 z0).snd
  let z2 := z1.snd
  let z3 := z2.snd.fst
  let z4 : Nat := List.length z3
  let z5 := z2.fst
  let z6 : Nat := List.length z5
  let z7 : Bool := decide ((4 / 1 : Nat) + 0 ≤ z6)
  let z8 := z1.fst
  let z9 := z8.snd
  let z10 := z9.snd
  let z11 : Elem × Bool := wdif { w0 := List.getD z3 0 0, w1 := List.getD z3 1 0, w2 := List.getD z3 2 0, w3 := List.getD z3 3 0 } { w0 := z8.fst, w1 := z9.fst, w2 := z10.fst, w3 := z10.snd.fst }
  let z12 := z11.fst
  let z13 : List UInt64 := List.set (List.set (List.set (List.set z5 0 z12.w0) 1 z12.w1) 2 z12.w2) 3 z12.w3
  let z14 : Bool := decide (4 ≤ List.length z13)
  let z15 : Elem := { w0 := List.getD z13 0 0, w1 := List.getD z13 1 0, w2 := List.getD z13 2 0, w3 := List.getD z13 3 0 }
  let z16 : List UInt64 := lay z5 z3 4 (0 : UInt64)
  (gd [ok0 z0, decide (6 ≤ z4) && true, decide (4 ≤ z4), decide (4 < z4)] (.br (!List.getD z3 4 0 == (0 : UInt64))
  (gd [z7, z14] (.ok ⟨fredc_o0, ((z15, ()), ())⟩))
  (.br (!z11.snd)
    (gd [z7, z14] (.ok ⟨fredc_o0, ((z15, ()), ())⟩))
    (gd [decide ((4 / 1 : Nat) + 0 ≤ z6), decide (4 ≤ List.length z16)] (.ok ⟨fredc_o0, (({ w0 := List.getD z16 0 0, w1 := List.getD z16 1 0, w2 := List.getD z16 2 0, w3 := List.getD z16 3 0 }, ()), ())⟩)))))
theorem fredc_q (ok0 : fredc_s0X → Bool) (g0_0 : fredc_s0X → fredc_e0_0X) (x : fredcX) (Q : fredc_S.Y → Prop) : wpf te E_facc (lamCons 0 (loopF fredc_s0 0 ok0 (fredc_f0 g0_0)) lamNil) 1000 Try.f110 (fredc_S.inp.inj x).tm (fredc_S.inp.inj x).hp (fnK fredc_S fredc_sel Q) (fun _ _ => False) = (fredc_T ok0 g0_0 (x.1.1) (x.1.2.1) (x.1.2.2.1)).wpR Q := by kernel_rfl
theorem fredc_main (ok0 : fredc_s0X → Bool) (g0_0 : fredc_s0X → fredc_e0_0X) (h0 : ∀ s : fredc_s0X, ok0 s = true → ∃ m e, loopRun (fredc_U0) m s = some e ∧ (fredc_f0 g0_0 s).run = some e) (pre : fredcX → Bool) (F : fredcX → OT fredc_S.Y) (hF : ∀ (x : fredcX) oy, pre x = true → (F x).run = some oy → (fredc_T ok0 g0_0 (x.1.1) (x.1.2.1) (x.1.2.2.1)).run = some oy) : SummOk Try.prog 110 (fredc_S.summ pre F) :=
  fn_tree te_ok E_facc_ok E_facc_any (f := 110) (fn := Try.f110) (c := codeOf Try.f110) (by kernel_rfl) (by kernel_rfl) (by kernel_rfl) (S := fredc_S) (k := 0) (by kernel_rfl) (fun R hR => (lamOk_cons (c := (codeOf Try.f110)) (by kernel_rfl) (id := 0) (by kernel_rfl) (loop_ok te_ok E_facc_ok E_facc_any (sh := fredc_s0) hR (xs := fredc_x0) (xsMk_small (by kernel_rfl) (by kernel_rfl) hR) xsMk_pan lamOk_nil (n := 1000) (T := fredc_U0) (fun s Q => fredc_q0 s Q) (ok := ok0) (f := fredc_f0 g0_0) h0) lamOk_nil)) (n := 1000) (sel := fredc_sel) (fun v o h => by cases h; rfl) (pre := pre) (F := F) (T := fun x => fredc_T ok0 g0_0 (x.1.1) (x.1.2.1) (x.1.2.2.1)) (fun x Q => fredc_q ok0 g0_0 x Q) hF
def greatOk (n : NumX) : Bool := decide (n = numOf 2) || decide (n = numOf 3)
theorem greatOk_cases {n : NumX} (h : greatOk n = true) : n = numOf 2 ∨ n = numOf 3 := by
  simpa [greatOk] using h
def rInv (n : NumX) : Nat := if n.2.2.2.1 == 11037532056220336127 then 15353493766103302224812374511606760489073247795810767472367693728416386214313 else 14238205147845459960272226733876560297615832660064601289232577236146637664127
theorem great_neg {n : NumX} (h : greatOk n = true) : (n.1.nat * n.2.2.2.1.toNat + 1) % 18446744073709551616 = 0 := by
  rcases greatOk_cases h with rfl | rfl <;> decide +kernel
theorem great_inv {n : NumX} (h : greatOk n = true) : 115792089237316195423570985008687907853269984665640564039457584007913129639936 * rInv n % n.1.nat = 1 % n.1.nat := by
  rcases greatOk_cases h with rfl | rfl <;> decide +kernel
theorem great_two {n : NumX} (h : greatOk n = true) : 2 * n.1.nat ≤ 115792089237316195423570985008687907853269984665640564039457584007913129639936 := by
  rcases greatOk_cases h with rfl | rfl <;> decide +kernel
theorem great_pos {n : NumX} (h : greatOk n = true) : 0 < n.1.nat := by
  rcases greatOk_cases h with rfl | rfl <;> decide +kernel
theorem tab6 (n : Nat) : tab (l6 n) 6 0 = l6 n := rfl
theorem l6_shift {n : Nat} (h : n / 18446744073709551616 / 18446744073709551616 / 18446744073709551616 / 18446744073709551616 / 18446744073709551616 / 18446744073709551616 = 0) :
    [UInt64.ofNat (n / 18446744073709551616), UInt64.ofNat (n / 18446744073709551616 / 18446744073709551616), UInt64.ofNat (n / 18446744073709551616 / 18446744073709551616 / 18446744073709551616),
      UInt64.ofNat (n / 18446744073709551616 / 18446744073709551616 / 18446744073709551616 / 18446744073709551616), UInt64.ofNat (n / 18446744073709551616 / 18446744073709551616 / 18446744073709551616 / 18446744073709551616 / 18446744073709551616), 0] = l6 (n / 18446744073709551616) := by
  unfold l6
  rw [h]
  rfl
theorem lay6 (a b : Nat) : lay (l6 a) (l6 b) 6 0 = l6 b := lay_eq rfl rfl
theorem word_mul (U : Nat) (neg : UInt64) : (List.getD (l6 U) 0 0 * neg).toNat = U * neg.toNat % 18446744073709551616 := by
  show (UInt64.ofNat U * neg).toNat = _
  rw [UInt64.toNat_mul, UInt64.toNat_ofNat', Nat.mul_mod, Nat.mod_mod, ← Nat.mul_mod]
theorem fredc_step (b : Elem) (k : Nat) (hk : k < 4) (x0 x1 x2 x3 x5 x6 x7 x8 x9 x10 : UInt64) (x4 : Int) (c1 c2 : List UInt64) (T : Nat) (h1 : c1.length = 4) (hT : T < 2 * (Elem.mk x0 x1 x2 x3).nat)
    (hn : ((Elem.mk x0 x1 x2 x3).nat * x6.toNat + 1) % 18446744073709551616 = 0) (hp : 2 * (Elem.mk x0 x1 x2 x3).nat ≤ 115792089237316195423570985008687907853269984665640564039457584007913129639936) (ha : (elemOf c1).nat < (Elem.mk x0 x1 x2 x3).nat) :
    (fredc_T0 b (k : Int) x0 x1 x2 x3 x4 x5 x6 x7 x8 x9 x10 c1 c2 (l6 T)).run = some (.inl (((), (), (), (), b, ((k + 1 : Nat) : Int), ()), ((x0, x1, x2, x3, x4, x5, x6, x7, x8, x9, x10, ()), c1, c2, l6 (rstep (Elem.mk x0 x1 x2 x3).nat x6.toNat (elemOf c1).nat ((lst b).getD k 0).toNat T), ()))) := by
  have hlt := rstep_lt (b := ((lst b).getD k 0).toNat) hn hT ha (UInt64.toNat_lt _)
  have heq := rstep_eq (a := (elemOf c1).nat) (b := ((lst b).getD k 0).toNat) (t := T) hn
  have hrd : rstep (Elem.mk x0 x1 x2 x3).nat x6.toNat (elemOf c1).nat ((lst b).getD k 0).toNat T = (T + (elemOf c1).nat * ((lst b).getD k 0).toNat + (Elem.mk x0 x1 x2 x3).nat * ((T + (elemOf c1).nat * ((lst b).getD k 0).toNat) * x6.toNat % 18446744073709551616)) / 18446744073709551616 := rfl
  generalize hU : T + (elemOf c1).nat * ((lst b).getD k 0).toNat = U at heq hrd
  generalize hV : U + (Elem.mk x0 x1 x2 x3).nat * (U * x6.toNat % 18446744073709551616) = V at heq hrd
  generalize rstep (Elem.mk x0 x1 x2 x3).nat x6.toNat (elemOf c1).nat ((lst b).getD k 0).toNat T = S at *
  have hVU : U ≤ V := by rw [← hV]; exact Nat.le_add_right _ _
  have hz1 : lay (l6 T) (l6 (v6 (tab (l6 T) 6 0) + Elem.nat { w0 := List.getD c1 0 0, w1 := List.getD c1 1 0, w2 := List.getD c1 2 0, w3 := List.getD c1 3 0 } * UInt64.toNat (List.getD [b.w0, b.w1, b.w2, b.w3] (Int.toNat (k : Int)) 0))) 6 0 = l6 U := by
    rw [tab6, v6_l6 (by omega), lay6, Int.toNat_natCast]
    exact congrArg l6 hU
  have hz3 : lay (l6 U) (l6 (v6 (tab (l6 U) 6 0) + Elem.nat { w0 := x0, w1 := x1, w2 := x2, w3 := x3 } * UInt64.toNat (List.getD (l6 U) 0 0 * x6))) 6 0 = l6 V := by
    rw [tab6, v6_l6 (by omega), lay6, word_mul, hV]
  have hsh : _ = l6 (V / 18446744073709551616) := l6_shift (n := V) (by omega)
  unfold fredc_T0
  simp only [hz1, hz3]
  refine (OT.run_t (decide_eq_true (by omega))).trans ((gd_run ?_).trans ?_)
  · simp only [l6_length, h1, List.all_cons, List.all_nil, Bool.and_true, Bool.and_eq_true]
    exact ⟨inB_of (by omega), rfl, rfl, rfl, rfl, rfl, rfl, rfl, rfl, rfl, rfl, rfl, rfl, inR_of (by omega)⟩
  · rw [hrd]
    exact congrArg (fun l => some (Sum.inl (((), (), (), (), b, ((k + 1 : Nat) : Int), ()), ((x0, x1, x2, x3, x4, x5, x6, x7, x8, x9, x10, ()), c1, c2, l, ())))) hsh
def cModC (s : fredc_s0X) : Elem := ⟨s.2.1.1, s.2.1.2.1, s.2.1.2.2.1, s.2.1.2.2.2.1⟩
def cNegC (s : fredc_s0X) : UInt64 := s.2.1.2.2.2.2.2.2.1
def fredc_ok0 (s : fredc_s0X) : Bool := decide (s.1.2.2.2.2.2.1 = 0 ∧ s.2.2.1.length = 4 ∧ s.2.2.2.2.1 = l6 0 ∧ ((cModC s).nat * (cNegC s).toNat + 1) % 18446744073709551616 = 0 ∧ 2 * (cModC s).nat ≤ 115792089237316195423570985008687907853269984665640564039457584007913129639936 ∧ (elemOf s.2.2.1).nat < (cModC s).nat)
def fredc_g0 (s : fredc_s0X) : fredc_e0_0X := (((), (), (), ()), (s.2.1, s.2.2.2.1, l6 (mont (cModC s).nat (cNegC s).toNat (elemOf s.2.2.1).nat s.1.2.2.2.2.1), ()))
theorem fredc_h0 : ∀ s : fredc_s0X, fredc_ok0 s = true → ∃ m e, loopRun fredc_U0 m s = some e ∧ (fredc_f0 fredc_g0 s).run = some e := by
  rintro ⟨⟨⟨⟩, ⟨⟩, ⟨⟩, ⟨⟩, b, i, ⟨⟩⟩, ⟨⟨x0, x1, x2, x3, x4, x5, x6, x7, x8, x9, x10, ⟨⟩⟩, c1, c2, c3, ⟨⟩⟩⟩ h
  have h' := of_decide_eq_true h
  dsimp only [cModC, cNegC] at h'
  obtain ⟨rfl, h1, rfl, hn, hp, ha⟩ := h'
  have := (loop_upto (T := fredc_U0) (fun k T => ((((), (), (), (), b, (k : Int), ()), ((x0, x1, x2, x3, x4, x5, x6, x7, x8, x9, x10, ()), c1, c2, l6 T, ())) : fredc_s0X)) (fun k T => rstep (Elem.mk x0 x1 x2 x3).nat x6.toNat (elemOf c1).nat ((lst b).getD k 0).toNat T)
    (fun T => (⟨(.exit 0, fredc_e0_0), (((), (), (), ()), ((x0, x1, x2, x3, x4, x5, x6, x7, x8, x9, x10, ()), c2, l6 T, ()))⟩ : LEnd)) 4 0 (fun _ T => T < 2 * (Elem.mk x0 x1 x2 x3).nat) (by omega) (fun k T hk hT => ⟨?_, ?_⟩) (fun T hT => ?_)).1
  · obtain ⟨m, hm⟩ := this
    exact ⟨m, _, hm, rfl⟩
  · exact fredc_step b k hk x0 x1 x2 x3 x5 x6 x7 x8 x9 x10 x4 c1 c2 T h1 hT hn hp ha
  · exact rstep_lt hn hT ha (UInt64.toNat_lt _)
  · exact OT.run_f (decide_eq_false (by dsimp only; omega))
def fredc_pre (x : fredcX) : Bool := greatOk x.1.1 && Nat.blt x.1.2.1.nat x.1.1.1.nat
def fredc_F (x : fredcX) : OT fredc_S.Y := .ok ⟨fredc_o0, ((ofN (x.1.2.1.nat * x.1.2.2.1.nat * rInv x.1.1 % x.1.1.1.nat), ()), ())⟩
theorem fredc_ok : SummOk Try.prog 110 (fredc_S.summ fredc_pre fredc_F) := fredc_main fredc_ok0 fredc_g0 fredc_h0 _ _ fun x oy hp ho => by
  rw [← ho]
  clear ho
  obtain ⟨⟨⟨⟨m0, m1, m2, m3⟩, ad, sm, neg, sq⟩, a, b, ⟨⟩⟩, ⟨⟩⟩ := x
  have hp' : (greatOk (⟨m0, m1, m2, m3⟩, ad, sm, neg, sq) && Nat.blt a.nat (Elem.mk m0 m1 m2 m3).nat) = true := hp
  rw [Bool.and_eq_true] at hp'
  obtain ⟨hg, ha⟩ := hp'
  have ha := blt_of ha
  have hn : ((Elem.mk m0 m1 m2 m3).nat * neg.toNat + 1) % 18446744073709551616 = 0 := great_neg hg
  have h2 : 2 * (Elem.mk m0 m1 m2 m3).nat ≤ 115792089237316195423570985008687907853269984665640564039457584007913129639936 := great_two hg
  have hr : 115792089237316195423570985008687907853269984665640564039457584007913129639936 * rInv (⟨m0, m1, m2, m3⟩, ad, sm, neg, sq) % (Elem.mk m0 m1 m2 m3).nat = 1 % (Elem.mk m0 m1 m2 m3).nat := great_inv hg
  have hM := mont_mod (a := a.nat) (b := b) hn hr
  have hL := mont_lt (b := b) hn ha
  refine (gd_run ?_).trans ?_
  · simp only [List.all_cons, List.all_nil, Bool.and_true, Bool.and_eq_true]
    exact ⟨decide_eq_true ⟨rfl, rfl, rfl, hn, h2, ha⟩, rfl, rfl, rfl⟩
  · show _ = (OT.ok ⟨fredc_o0, ((ofN (a.nat * b.nat * rInv (⟨m0, m1, m2, m3⟩, ad, sm, neg, sq) % (Elem.mk m0 m1 m2 m3).nat), ()), ())⟩ : OT fredc_S.Y).run
    rw [← hM, mod_two hL]
    have e0 : fredc_g0 (((), (), (), (), b, 0, ()), ((m0, m1, m2, m3, ad, sm, neg, sq.w0, sq.w1, sq.w2, sq.w3, ()), [a.w0, a.w1, a.w2, a.w3], [0, 0, 0, 0], [0, 0, 0, 0, 0, 0], ())) = (((), (), (), ()), ((m0, m1, m2, m3, ad, sm, neg, sq.w0, sq.w1, sq.w2, sq.w3, ()), [0, 0, 0, 0], l6 (mont (Elem.mk m0 m1 m2 m3).nat neg.toNat a.nat b), ())) := rfl
    dsimp only
    rw [e0]
    clear e0 hM
    generalize mont (Elem.mk m0 m1 m2 m3).nat neg.toNat a.nat b = M at *
    have e4 : List.getD (l6 M) 4 0 = 0 := by
      show UInt64.ofNat (M / 18446744073709551616 / 18446744073709551616 / 18446744073709551616 / 18446744073709551616) = 0
      rw [show M / 18446744073709551616 / 18446744073709551616 / 18446744073709551616 / 18446744073709551616 = 0 by omega]
      rfl
    refine (OT.run_f (by rw [e4]; rfl)).trans ?_
    have eN : (ofN M).nat = M := nat_ofN (by omega)
    by_cases hlt : M < (Elem.mk m0 m1 m2 m3).nat
    · rw [if_pos hlt]
      refine (OT.run_f ?_).trans ((gd_run rfl).trans rfl)
      show (!Nat.blt (ofN M).nat (Elem.mk m0 m1 m2 m3).nat) = false
      rw [eN, show Nat.blt M (Elem.mk m0 m1 m2 m3).nat = true from Nat.ble_eq_true_of_le hlt]
      rfl
    · rw [if_neg hlt]
      refine (OT.run_t ?_).trans ((gd_run rfl).trans ?_)
      · show (!Nat.blt (ofN M).nat (Elem.mk m0 m1 m2 m3).nat) = true
        rw [eN]
        cases hb : Nat.blt M (Elem.mk m0 m1 m2 m3).nat
        · rfl
        · exact absurd (blt_of hb) hlt
      · have ew : (wdif (ofN M) (Elem.mk m0 m1 m2 m3)).1 = ofN (M - (Elem.mk m0 m1 m2 m3).nat) := by
          apply nat_inj
          rw [wdif_nat (by omega), eN, nat_ofN (by omega)]
        rw [← ew]
        rfl
def fredc_summ : Summ := (fredc_S.summ fredc_pre fredc_F)
theorem fredc_known : SummOk Try.prog 110 fredc_summ := fredc_ok
theorem fredc_smono : MonoOk fredc_summ := fn_mono
def E_fredc : Env := envCons 110 fredc_summ E_facc
theorem E_fredc_ok : EnvOk Try.prog E_fredc := envOk_cons fredc_known E_facc_ok
theorem E_fredc_mono : EnvMono E_fredc := envMono_cons fredc_smono E_facc_mono
theorem E_fredc_any : AnyOk Try.prog te E_fredc := any_ok follows te_ok E_fredc_ok E_fredc_mono
def fmul0_S : FnSpec := ⟨[.val true (.prod .elem (.prod .int (.prod .u64 (.prod .u64 .elem)))), .val true .elem, .val true .elem], [], true, 0, false⟩
abbrev fmul0X : Type := (((Elem × (Int × (UInt64 × (UInt64 × Elem))))) × (Elem) × (Elem) × Unit) × (Unit)
def fmul0_o0 : OutSh := ⟨[.val true .elem], [], false⟩
def fmul0_sel : SV → Option OutSh := fun _ => some fmul0_o0
def fmul0_T (a0 : (Elem × (Int × (UInt64 × (UInt64 × Elem))))) (a1 : Elem) (a2 : Elem) : OT fmul0_S.Y :=
  let z0 : Bool := !a0.snd.snd.fst == (0 : UInt64)
  let z1 : Nat := Elem.nat a0.fst
  let z2 : Elem := ofN (Elem.nat a1 % z1)
  let z3 : Elem := ofN (Elem.nat a2 % z1)
  let z4 : Nat := rInv a0
  let z5 : Elem := ofN (Elem.nat z2 * Elem.nat z3 * z4 % z1)
  (gd [fred_pre ((a0, a1, ()), ()), fred_pre ((a0, a2, ()), ())] (.br (z0)
  (gd [z0] (.ok ⟨fmul0_o0, (({ w0 := z2.w0 * z3.w0 % a0.snd.snd.fst, w1 := 0, w2 := 0, w3 := 0 }, ()), ())⟩))
  (gd [fredc_pre ((a0, z2, z3, ()), ()), fredc_pre ((a0, z5, a0.snd.snd.snd.snd, ()), ())] (.ok ⟨fmul0_o0, ((ofN (Elem.nat z5 * Elem.nat a0.snd.snd.snd.snd * z4 % z1), ()), ())⟩))))
theorem fmul0_q (x : fmul0X) (Q : fmul0_S.Y → Prop) : wpf te E_fredc lamNil 1000 Try.f92 (fmul0_S.inp.inj x).tm (fmul0_S.inp.inj x).hp (fnK fmul0_S fmul0_sel Q) (fun _ _ => False) = (fmul0_T (x.1.1) (x.1.2.1) (x.1.2.2.1)).wpR Q := by kernel_rfl
theorem fmul0_main (pre : fmul0X → Bool) (F : fmul0X → OT fmul0_S.Y) (hF : ∀ (x : fmul0X) oy, pre x = true → (F x).run = some oy → (fmul0_T (x.1.1) (x.1.2.1) (x.1.2.2.1)).run = some oy) : SummOk Try.prog 92 (fmul0_S.summ pre F) :=
  fn_tree te_ok E_fredc_ok E_fredc_any (f := 92) (fn := Try.f92) (c := codeOf Try.f92) (by kernel_rfl) (by kernel_rfl) (by kernel_rfl) (S := fmul0_S) (k := 0) (by kernel_rfl) (fun R hR => lamOk_nil) (n := 1000) (sel := fmul0_sel) (fun v o h => by cases h; rfl) (pre := pre) (F := F) (T := fun x => fmul0_T (x.1.1) (x.1.2.1) (x.1.2.2.1)) (fun x Q => fmul0_q x Q) hF
theorem mod_words {p A B r s : Nat} (h : r * s * r % p = 1 % p) : A * B * r % p * s * r % p = A * B % p := by
  have e : A * B * r * (s * r) = A * B * (r * s * r) := by
    rw [Nat.mul_assoc (A * B) r (s * r), Nat.mul_assoc r s r]
  rw [Nat.mul_assoc, Nat.mul_mod, Nat.mod_mod, ← Nat.mul_mod, e, Nat.mul_mod, h, ← Nat.mul_mod, Nat.mul_one]
theorem great_sq {n : NumX} (h : greatOk n = true) : rInv n * n.2.2.2.2.nat * rInv n % n.1.nat = 1 % n.1.nat := by
  rcases greatOk_cases h with rfl | rfl <;> decide +kernel
theorem great2 : greatOk (numOf 2) = true := by decide +kernel
theorem great3 : greatOk (numOf 3) = true := by decide +kernel
theorem great_num {n : NumX} (h : greatOk n = true) : numOk n = true := by
  rcases greatOk_cases h with rfl | rfl <;> decide +kernel
theorem fmul0_little {n : NumX} {a b : Elem} {m : UInt64} (hn0 : numOk n = true) (h1 : n.1 = ⟨m, 0, 0, 0⟩) (h2 : n.2.2.1 = m) (hs : isSmall m = true) : (fmul0_T n a b).run = some ⟨fmul0_o0, ((mulP n.1.nat a b, ()), ())⟩ := by
  have hm := small_pos hs
  have hb' : m.toNat ≤ 16521217 := by rcases isSmall_cases hs with rfl | rfl <;> decide
  have hn : n.1.nat = m.toNat := by rw [h1]; show m.toNat + _ * (0 + _ * (0 + _ * 0)) = _; omega
  have hz : (!(n.2.2.1 == 0)) = true := by
    rw [h2]
    rcases isSmall_cases hs with rfl | rfl <;> rfl
  have ha := Nat.mod_lt a.nat hm
  have hb := Nat.mod_lt b.nat hm
  have hab : a.nat % m.toNat * (b.nat % m.toNat) < 18446744073709551616 := by
    have : a.nat % m.toNat * (b.nat % m.toNat) ≤ 16521217 * 16521217 := Nat.mul_le_mul (by omega) (by omega)
    omega
  have e : UInt64.ofNat (a.nat % m.toNat) * UInt64.ofNat (b.nat % m.toNat) % m = UInt64.ofNat (a.nat * b.nat % m.toNat) := by
    have hlt := Nat.mod_lt (a.nat * b.nat) hm
    rw [← UInt64.toNat_inj, UInt64.toNat_mod, UInt64.toNat_mul, UInt64.toNat_ofNat', UInt64.toNat_ofNat', UInt64.toNat_ofNat', Nat.mod_eq_of_lt (a := a.nat % m.toNat) (by omega), Nat.mod_eq_of_lt (a := b.nat % m.toNat) (by omega),
      Nat.mod_eq_of_lt (a := a.nat % m.toNat * (b.nat % m.toNat)) (by omega), Nat.mod_eq_of_lt (a := a.nat * b.nat % m.toNat) (by omega), ← Nat.mul_mod]
  have hlt := Nat.mod_lt (a.nat * b.nat) hm
  unfold fmul0_T
  refine (gd_run ?_).trans ((OT.run_t hz).trans ((gd_run ?_).trans ?_))
  · simp only [List.all_cons, List.all_nil, Bool.and_true, Bool.and_eq_true]
    exact ⟨hn0, hn0⟩
  · simp only [hz, List.all_cons, List.all_nil, Bool.and_true]
  · unfold mulP
    rw [hn, ofN_small (n := a.nat * b.nat % m.toNat) (by omega), ← e]
    show some (⟨fmul0_o0, ((⟨UInt64.ofNat (a.nat % m.toNat) * UInt64.ofNat (b.nat % m.toNat) % n.2.2.1, 0, 0, 0⟩, ()), ())⟩ : fmul0_S.Y) = _
    rw [h2]
theorem fmul0_great {n : NumX} {a b : Elem} (h : greatOk n = true) (h2 : n.2.2.1 = 0) : (fmul0_T n a b).run = some ⟨fmul0_o0, ((mulP n.1.nat a b, ()), ())⟩ := by
  have hn0 := great_num h
  have hp := numOk_pos hn0
  have hz : (!(n.2.2.1 == 0)) = false := by rw [h2]; rfl
  have e1 : (ofN (a.nat % n.1.nat)).nat = a.nat % n.1.nat := rem_nat hp
  have e2 : (ofN (b.nat % n.1.nat)).nat = b.nat % n.1.nat := rem_nat hp
  have e3 : (ofN (a.nat % n.1.nat * (b.nat % n.1.nat) * rInv n % n.1.nat)).nat = a.nat % n.1.nat * (b.nat % n.1.nat) * rInv n % n.1.nat := rem_nat hp
  unfold fmul0_T
  refine (gd_run ?_).trans ((OT.run_f hz).trans ((gd_run ?_).trans ?_))
  · simp only [List.all_cons, List.all_nil, Bool.and_true, Bool.and_eq_true]
    exact ⟨hn0, hn0⟩
  · simp only [List.all_cons, List.all_nil, Bool.and_true, Bool.and_eq_true, fredc_pre, h, true_and, e1, e2, e3]
    exact ⟨Nat.ble_eq_true_of_le (Nat.mod_lt _ hp.1), Nat.ble_eq_true_of_le (Nat.mod_lt _ hp.1)⟩
  · simp only [e1, e2, e3, mod_words (great_sq h), mulP, ← Nat.mul_mod]
    rfl
def fmul0_pre (x : fmul0X) : Bool := numOk x.1.1
def fmul0_F (x : fmul0X) : OT fmul0_S.Y := .ok ⟨fmul0_o0, ((mulP x.1.1.1.nat x.1.2.1 x.1.2.2.1, ()), ())⟩
theorem fmul0_ok : SummOk Try.prog 92 (fmul0_S.summ fmul0_pre fmul0_F) := fmul0_main _ _ fun x oy hp ho => by
  rw [← ho]
  clear ho
  obtain ⟨⟨n, a, b, ⟨⟩⟩, ⟨⟩⟩ := x
  have hp' : numOk n = true := hp
  rcases numOk_cases hp' with rfl | rfl | rfl | rfl
  · exact fmul0_little hp' (m := 16513537) rfl rfl rfl
  · exact fmul0_little hp' (m := 16521217) rfl rfl rfl
  · exact fmul0_great great2 rfl
  · exact fmul0_great great3 rfl
def fmul0_summ : Summ := (fmul0_S.summ fmul0_pre fmul0_F)
theorem fmul0_known : SummOk Try.prog 92 fmul0_summ := fmul0_ok
theorem fmul0_smono : MonoOk fmul0_summ := fn_mono
def E_fmul0 : Env := envCons 92 fmul0_summ E_fredc
theorem E_fmul0_ok : EnvOk Try.prog E_fmul0 := envOk_cons fmul0_known E_fredc_ok
theorem E_fmul0_mono : EnvMono E_fmul0 := envMono_cons fmul0_smono E_fredc_mono
theorem E_fmul0_any : AnyOk Try.prog te E_fmul0 := any_ok follows te_ok E_fmul0_ok E_fmul0_mono
def fmul_S : FnSpec := ⟨[.val false .int, .val true .elem, .val true .elem], [], true, 0, false⟩
abbrev fmulX : Type := ((Int) × (Elem) × (Elem) × Unit) × (Unit)
def fmul_o0 : OutSh := ⟨[.val true .elem], [], false⟩
def fmul_sel : SV → Option OutSh := fun _ => some fmul_o0
def fmul_T (a0 : Int) (a1 : Elem) (a2 : Elem) : OT fmul_S.Y :=
  let z0 : Elem × Int × UInt64 × UInt64 × Elem := numOf (Int.toNat a0)
  (.br (sortOk a0)
  (gd [fmul0_pre ((z0, a1, a2, ()), ())] (.ok ⟨fmul_o0, ((mulP (Elem.nat z0.fst) a1 a2, ()), ())⟩))
  (.ok ⟨fmul_o0, (({ w0 := 0, w1 := 0, w2 := 0, w3 := 0 }, ()), ())⟩))
theorem fmul_q (x : fmulX) (Q : fmul_S.Y → Prop) : wpf te E_fmul0 lamNil 1000 Try.f60 (fmul_S.inp.inj x).tm (fmul_S.inp.inj x).hp (fnK fmul_S fmul_sel Q) (fun _ _ => False) = (fmul_T (x.1.1) (x.1.2.1) (x.1.2.2.1)).wpR Q := by kernel_rfl
theorem fmul_main (pre : fmulX → Bool) (F : fmulX → OT fmul_S.Y) (hF : ∀ (x : fmulX) oy, pre x = true → (F x).run = some oy → (fmul_T (x.1.1) (x.1.2.1) (x.1.2.2.1)).run = some oy) : SummOk Try.prog 60 (fmul_S.summ pre F) :=
  fn_tree te_ok E_fmul0_ok E_fmul0_any (f := 60) (fn := Try.f60) (c := codeOf Try.f60) (by kernel_rfl) (by kernel_rfl) (by kernel_rfl) (S := fmul_S) (k := 0) (by kernel_rfl) (fun R hR => lamOk_nil) (n := 1000) (sel := fmul_sel) (fun v o h => by cases h; rfl) (pre := pre) (F := F) (T := fun x => fmul_T (x.1.1) (x.1.2.1) (x.1.2.2.1)) (fun x Q => fmul_q x Q) hF
def fmul_pre (_ : fmulX) : Bool := true
def fmul_F (x : fmulX) : OT fmul_S.Y := .br (sortOk x.1.1) (.ok ⟨fmul_o0, ((mulP (pS x.1.1) x.1.2.1 x.1.2.2.1, ()), ())⟩) (.ok ⟨fmul_o0, ((⟨0, 0, 0, 0⟩, ()), ())⟩)
theorem fmul_ok : SummOk Try.prog 60 (fmul_S.summ fmul_pre fmul_F) := fmul_main _ _ fun x oy hp ho => by
  rw [← ho]
  clear ho
  obtain ⟨⟨s, a, b, ⟨⟩⟩, ⟨⟩⟩ := x
  cases hs : sortOk s
  · exact (OT.run_f hs).trans (OT.run_f (b := sortOk s) hs).symm
  · refine (OT.run_t hs).trans ((gd_run ?_).trans (OT.run_t (b := sortOk s) hs).symm)
    simp only [List.all_cons, List.all_nil, Bool.and_true]
    exact numOk_of hs
def fmul_summ : Summ := (fmul_S.summ fmul_pre fmul_F)
theorem fmul_known : SummOk Try.prog 60 fmul_summ := fmul_ok
theorem fmul_smono : MonoOk fmul_summ := fn_mono
def E_fmul : Env := envCons 60 fmul_summ E_fmul0
theorem E_fmul_ok : EnvOk Try.prog E_fmul := envOk_cons fmul_known E_fmul0_ok
theorem E_fmul_mono : EnvMono E_fmul := envMono_cons fmul_smono E_fmul0_mono
theorem E_fmul_any : AnyOk Try.prog te E_fmul := any_ok follows te_ok E_fmul_ok E_fmul_mono
def fhalf_S : FnSpec := ⟨[.val true .elem], [], true, 0, false⟩
abbrev fhalfX : Type := ((Elem) × Unit) × (Unit)
def fhalf_o0 : OutSh := ⟨[.val true .elem], [], false⟩
def fhalf_sel : SV → Option OutSh := fun _ => some fhalf_o0
def fhalf_T (a0 : Elem) : OT fhalf_S.Y :=
  (.ok ⟨fhalf_o0, (({ w0 := shr64 a0.w0 (1 : Int) ||| shl64 a0.w1 (63 : Int), w1 := shr64 a0.w1 (1 : Int) ||| shl64 a0.w2 (63 : Int), w2 := shr64 a0.w2 (1 : Int) ||| shl64 a0.w3 (63 : Int), w3 := shr64 a0.w3 (1 : Int) }, ()), ())⟩)
theorem fhalf_q (x : fhalfX) (Q : fhalf_S.Y → Prop) : wpf te E_fmul lamNil 1000 Try.f102 (fhalf_S.inp.inj x).tm (fhalf_S.inp.inj x).hp (fnK fhalf_S fhalf_sel Q) (fun _ _ => False) = (fhalf_T (x.1.1)).wpR Q := by kernel_rfl
theorem fhalf_main (pre : fhalfX → Bool) (F : fhalfX → OT fhalf_S.Y) (hF : ∀ (x : fhalfX) oy, pre x = true → (F x).run = some oy → (fhalf_T (x.1.1)).run = some oy) : SummOk Try.prog 102 (fhalf_S.summ pre F) :=
  fn_tree te_ok E_fmul_ok E_fmul_any (f := 102) (fn := Try.f102) (c := codeOf Try.f102) (by kernel_rfl) (by kernel_rfl) (by kernel_rfl) (S := fhalf_S) (k := 0) (by kernel_rfl) (fun R hR => lamOk_nil) (n := 1000) (sel := fhalf_sel) (fun v o h => by cases h; rfl) (pre := pre) (F := F) (T := fun x => fhalf_T (x.1.1)) (fun x Q => fhalf_q x Q) hF
theorem half_word (x y : UInt64) : (shr64 x 1 ||| shl64 y 63).toNat = x.toNat / 2 + 9223372036854775808 * (y.toNat % 2) := by
  have hx := x.toNat_lt
  have e1 : (shr64 x 1).toNat = x.toNat / 2 := shr64_nat x 1 (by omega)
  have e2 : (shl64 y 63).toNat = 9223372036854775808 * (y.toNat % 2) := by
    have := shl64_nat y 63 (by omega)
    have e : (shl64 y 63).toNat = y.toNat * 2 ^ 63 % 2 ^ 64 := this
    rw [e]
    omega
  rw [UInt64.toNat_or, e1, e2, Nat.or_comm]
  have := Nat.two_pow_add_eq_or_of_lt (i := 63) (b := x.toNat / 2) (by omega) (y.toNat % 2)
  rw [Nat.add_comm]
  exact this.symm
theorem half_join (x N : Nat) : (x + 18446744073709551616 * N) / 2 = (x / 2 + 9223372036854775808 * (N % 2)) + 18446744073709551616 * (N / 2) := by
  omega
theorem low_two (y N : Nat) : (y + 18446744073709551616 * N) % 2 = y % 2 := by
  omega
def halfE (a : Elem) : Elem := ofN (a.nat / 2)
theorem halfE_eq (a : Elem) : halfE a = ⟨shr64 a.w0 1 ||| shl64 a.w1 63, shr64 a.w1 1 ||| shl64 a.w2 63, shr64 a.w2 1 ||| shl64 a.w3 63, shr64 a.w3 1⟩ := by
  refine ofN_eq (k := 0) ?_
  rw [half_word, half_word, half_word, Nat.mul_zero, Nat.add_zero]
  unfold Sx.Elem.nat
  have e3 : (shr64 a.w3 1).toNat = a.w3.toNat / 2 := shr64_nat a.w3 1 (by omega)
  rw [half_join, low_two, half_join, low_two, half_join, e3]
def fhalf_pre (_ : fhalfX) : Bool := true
def fhalf_F (x : fhalfX) : OT fhalf_S.Y := .ok ⟨fhalf_o0, ((halfE x.1.1, ()), ())⟩
theorem fhalf_ok : SummOk Try.prog 102 (fhalf_S.summ fhalf_pre fhalf_F) := fhalf_main _ _ fun x oy hp ho => by
  rw [← ho]
  clear ho
  obtain ⟨⟨a, ⟨⟩⟩, ⟨⟩⟩ := x
  simp only [fhalf_F, halfE_eq]
  rfl
def fhalf_summ : Summ := (fhalf_S.summ fhalf_pre fhalf_F)
theorem fhalf_known : SummOk Try.prog 102 fhalf_summ := fhalf_ok
theorem fhalf_smono : MonoOk fhalf_summ := fn_mono
def E_fhalf : Env := envCons 102 fhalf_summ E_fmul
theorem E_fhalf_ok : EnvOk Try.prog E_fhalf := envOk_cons fhalf_known E_fmul_ok
theorem E_fhalf_mono : EnvMono E_fhalf := envMono_cons fhalf_smono E_fmul_mono
theorem E_fhalf_any : AnyOk Try.prog te E_fhalf := any_ok follows te_ok E_fhalf_ok E_fhalf_mono
def fhalves_S : FnSpec := ⟨[.val true .elem, .val false .int], [], true, 0, false⟩
abbrev fhalvesX : Type := ((Elem) × (Int) × Unit) × (Unit)
def fhalves_s0 : Shape := ⟨12, [(2, .ptr 0 0 0), (4, .ptr 1 0 0), (5, .val false .int), (6, .val false .int)], [(0, .row .u64), (1, .row .u64)], 0, true⟩
abbrev fhalves_s0X : Type := ((Unit) × (Unit) × (Int) × (Int) × Unit) × ((List (UInt64)) × (List (UInt64)) × Unit)
def fhalves_e0_0 : Shape := ⟨12, [(2, .ptr 0 0 0), (4, .ptr 1 0 0)], [(0, .row .u64), (1, .row .u64)], 0, true⟩
abbrev fhalves_e0_0X : Type := ((Unit) × (Unit) × Unit) × ((List (UInt64)) × (List (UInt64)) × Unit)
def fhalves_x0 : SE → Option Shape := xsMk [(0, fhalves_e0_0)] none
def fhalves_T0 (a5 : Int) (a6 : Int) (c0 : List (UInt64)) (c1 : List (UInt64)) : OT (Sum fhalves_s0X LEnd) :=
  let z0 : Nat := List.length c0
  let z1 : Elem := halfE { w0 := List.getD c0 0 0, w1 := List.getD c0 1 0, w2 := List.getD c0 2 0, w3 := List.getD c0 3 0 }
  (.br (decide (a6 < a5))
  (gd [decide (4 ≤ z0), decide ((4 / 1 : Nat) + 0 ≤ z0), inR (a6 + (1 : Int))] (.ok (.inl (((), ((), (a5, (a6 + (1 : Int), ())))), (List.set (List.set (List.set (List.set c0 0 z1.w0) 1 z1.w1) 2 z1.w2) 3 z1.w3, (c1, ()))))))
  (.ok (.inr ⟨(.exit 0, fhalves_e0_0), (((), ((), ())), (c0, (c1, ())))⟩)))
def fhalves_U0 (s : fhalves_s0X) : OT (Sum fhalves_s0X LEnd) := fhalves_T0 (s.1.2.2.1) (s.1.2.2.2.1) (s.2.1) (s.2.2.1)
theorem fhalves_q0 (s : fhalves_s0X) (Q : Sum fhalves_s0X LEnd → Prop) : wps te E_fhalf lamNil 1000 (loopOf (codeOf Try.f99) 0) (fhalves_s0.inj s) (stepK fhalves_s0 fhalves_x0 (Q : Sum fhalves_s0.T LEnd → Prop)) = (fhalves_U0 s).wpR Q := by kernel_rfl
def fhalves_f0 (g0_0 : fhalves_s0X → fhalves_e0_0X) (s : fhalves_s0X) : OT LEnd := (.ok ⟨(.exit 0, fhalves_e0_0), g0_0 s⟩)
def fhalves_o0 : OutSh := ⟨[.val true .elem], [], false⟩
def fhalves_sel : SV → Option OutSh := fun _ => some fhalves_o0
def fhalves_T (ok0 : fhalves_s0X → Bool) (g0_0 : fhalves_s0X → fhalves_e0_0X) (a0 : Elem) (a1 : Int) : OT fhalves_S.Y :=
  let z0 : (PUnit × PUnit × Int × Int × PUnit) × List UInt64 × List UInt64 × PUnit := (((), (), a1, (0 : Int), ()), [a0.w0, a0.w1, a0.w2, a0.w3], [(0 : UInt64), (0 : UInt64), (0 : UInt64), (0 : UInt64)], ())
  let z1 := (g0_0 z0).snd
  let z2 := z1.fst
  let z3 := z1.snd.fst
  let z4 : List UInt64 := lay z3 z2 4 (0 : UInt64)
  (gd [ok0 z0, decide (4 ≤ List.length z2), decide ((4 / 1 : Nat) + 0 ≤ List.length z3), decide (4 ≤ List.length z4)] (.ok ⟨fhalves_o0, (({ w0 := List.getD z4 0 0, w1 := List.getD z4 1 0, w2 := List.getD z4 2 0, w3 := List.getD z4 3 0 }, ()), ())⟩))
theorem fhalves_q (ok0 : fhalves_s0X → Bool) (g0_0 : fhalves_s0X → fhalves_e0_0X) (x : fhalvesX) (Q : fhalves_S.Y → Prop) : wpf te E_fhalf (lamCons 0 (loopF fhalves_s0 0 ok0 (fhalves_f0 g0_0)) lamNil) 1000 Try.f99 (fhalves_S.inp.inj x).tm (fhalves_S.inp.inj x).hp (fnK fhalves_S fhalves_sel Q) (fun _ _ => False) = (fhalves_T ok0 g0_0 (x.1.1) (x.1.2.1)).wpR Q := by kernel_rfl
theorem fhalves_main (ok0 : fhalves_s0X → Bool) (g0_0 : fhalves_s0X → fhalves_e0_0X) (h0 : ∀ s : fhalves_s0X, ok0 s = true → ∃ m e, loopRun (fhalves_U0) m s = some e ∧ (fhalves_f0 g0_0 s).run = some e) (pre : fhalvesX → Bool) (F : fhalvesX → OT fhalves_S.Y) (hF : ∀ (x : fhalvesX) oy, pre x = true → (F x).run = some oy → (fhalves_T ok0 g0_0 (x.1.1) (x.1.2.1)).run = some oy) : SummOk Try.prog 99 (fhalves_S.summ pre F) :=
  fn_tree te_ok E_fhalf_ok E_fhalf_any (f := 99) (fn := Try.f99) (c := codeOf Try.f99) (by kernel_rfl) (by kernel_rfl) (by kernel_rfl) (S := fhalves_S) (k := 0) (by kernel_rfl) (fun R hR => (lamOk_cons (c := (codeOf Try.f99)) (by kernel_rfl) (id := 0) (by kernel_rfl) (loop_ok te_ok E_fhalf_ok E_fhalf_any (sh := fhalves_s0) hR (xs := fhalves_x0) (xsMk_small (by kernel_rfl) (by kernel_rfl) hR) xsMk_pan lamOk_nil (n := 1000) (T := fhalves_U0) (fun s Q => fhalves_q0 s Q) (ok := ok0) (f := fhalves_f0 g0_0) h0) lamOk_nil)) (n := 1000) (sel := fhalves_sel) (fun v o h => by cases h; rfl) (pre := pre) (F := F) (T := fun x => fhalves_T ok0 g0_0 (x.1.1) (x.1.2.1)) (fun x Q => fhalves_q ok0 g0_0 x Q) hF
def halvesE (a : Elem) (n : Nat) : Elem := ofN (a.nat / 2 ^ n)
theorem halves_upto (a : Elem) : ∀ n, upto (fun _ e => halfE e) a n = halvesE a n
  | 0 => by
    show a = ofN (a.nat / 2 ^ 0)
    rw [Nat.pow_zero, Nat.div_one, ofN_self]
  | n + 1 => by
    show halfE (upto (fun _ e => halfE e) a n) = _
    rw [halves_upto a n]
    unfold halfE halvesE
    have := nat_lt a
    have h2 : a.nat / 2 ^ n ≤ a.nat := Nat.div_le_self _ _
    rw [nat_ofN (by omega), Nat.div_div_eq_div_mul, ← Nat.pow_succ]
def fhalves_ok0 (s : fhalves_s0X) : Bool := decide (s.1.2.2.2.1 = 0 ∧ 0 ≤ s.1.2.2.1 ∧ s.1.2.2.1 ≤ 1000000 ∧ s.2.1.length = 4)
def fhalves_g0 (s : fhalves_s0X) : fhalves_e0_0X := (((), (), ()), (lst (halvesE (elemOf s.2.1) s.1.2.2.1.toNat), s.2.2.1, ()))
theorem fhalves_h0 : ∀ s : fhalves_s0X, fhalves_ok0 s = true → ∃ m e, loopRun fhalves_U0 m s = some e ∧ (fhalves_f0 fhalves_g0 s).run = some e := by
  rintro ⟨⟨⟨⟩, ⟨⟩, k, i, ⟨⟩⟩, ⟨l, o, ⟨⟩⟩⟩ h
  have h' := of_decide_eq_true h
  dsimp only at h'
  obtain ⟨rfl, h0, h1, hl⟩ := h'
  obtain ⟨a, rfl⟩ : ∃ a, l = lst a := ⟨elemOf l, (lst_elemOf hl).symm⟩
  have := (loop_upto (T := fhalves_U0) (fun i a => ((((), (), k, (i : Int), ()), (lst a, o, ())) : fhalves_s0X)) (fun _ e => halfE e)
    (fun a => (⟨(.exit 0, fhalves_e0_0), (((), (), ()), (lst a, o, ()))⟩ : LEnd)) k.toNat a (fun _ _ => True) trivial (fun i a hi _ => ⟨?_, trivial⟩) (fun a _ => ?_)).1
  · rw [halves_upto] at this
    obtain ⟨m, hm⟩ := this
    exact ⟨m, _, hm, rfl⟩
  · refine (OT.run_t (decide_eq_true (by dsimp only; omega))).trans ((gd_run ?_).trans rfl)
    simp only [List.all_cons, List.all_nil, Bool.and_true, Bool.and_eq_true]
    exact ⟨rfl, rfl, inR_of (by omega)⟩
  · exact OT.run_f (decide_eq_false (by dsimp only; omega))
def fhalves_pre (x : fhalvesX) : Bool := decide (0 ≤ x.1.2.1 ∧ x.1.2.1 ≤ 1000000)
def fhalves_F (x : fhalvesX) : OT fhalves_S.Y := .ok ⟨fhalves_o0, ((halvesE x.1.1 x.1.2.1.toNat, ()), ())⟩
theorem fhalves_ok : SummOk Try.prog 99 (fhalves_S.summ fhalves_pre fhalves_F) := fhalves_main fhalves_ok0 fhalves_g0 fhalves_h0 _ _ fun x oy hp ho => by
  rw [← ho]
  clear ho
  obtain ⟨⟨a, k, ⟨⟩⟩, ⟨⟩⟩ := x
  have hp' : 0 ≤ k ∧ k ≤ 1000000 := of_decide_eq_true hp
  refine (gd_run ?_).trans ?_
  · simp only [List.all_cons, List.all_nil, Bool.and_true, Bool.and_eq_true]
    exact ⟨decide_eq_true ⟨rfl, hp'.1, hp'.2, rfl⟩, rfl, rfl, rfl⟩
  · show some (⟨fhalves_o0, ((elemOf (lay [0, 0, 0, 0] (lst (halvesE a k.toNat)) 4 0), ()), ())⟩ : fhalves_S.Y) = some ⟨fhalves_o0, ((halvesE a k.toNat, ()), ())⟩
    rw [lay4 _ _ rfl rfl]
    rfl
def fhalves_summ : Summ := (fhalves_S.summ fhalves_pre fhalves_F)
theorem fhalves_known : SummOk Try.prog 99 fhalves_summ := fhalves_ok
theorem fhalves_smono : MonoOk fhalves_summ := fn_mono
def E_fhalves : Env := envCons 99 fhalves_summ E_fhalf
theorem E_fhalves_ok : EnvOk Try.prog E_fhalves := envOk_cons fhalves_known E_fhalf_ok
theorem E_fhalves_mono : EnvMono E_fhalves := envMono_cons fhalves_smono E_fhalf_mono
theorem E_fhalves_any : AnyOk Try.prog te E_fhalves := any_ok follows te_ok E_fhalves_ok E_fhalves_mono
end Go.Proofs.Ytkedomfjjahjnaa

namespace Go.Proofs.Ytkedomfjjahjnaa
open Sx Go
def zeroE (k : Elem) : Bool := (k.w0 == 0 && (k.w1 == 0 && (k.w2 == 0 && (k.w3 == 0 && true))))
def oddE (k : Elem) : Bool := (k.w0 &&& 1 == 1)
theorem zeroE_nat (k : Elem) : zeroE k = Nat.beq k.nat 0 := by
  unfold zeroE Sx.Elem.nat
  have e : ∀ x : UInt64, (x == 0) = decide (x.toNat = 0) := fun x => by
    by_cases h : x = 0
    · subst h; rfl
    · have h' : ¬ x.toNat = 0 := fun h' => h (UInt64.toNat_inj.1 h')
      rw [decide_eq_false h']
      simpa using h
  rw [e, e, e, e]
  generalize k.w0.toNat = a
  generalize k.w1.toNat = b
  generalize k.w2.toNat = c
  generalize k.w3.toNat = d
  by_cases h : a = 0 ∧ b = 0 ∧ c = 0 ∧ d = 0
  · obtain ⟨rfl, rfl, rfl, rfl⟩ := h
    rfl
  · have h1 : ¬ (a + 18446744073709551616 * (b + 18446744073709551616 * (c + 18446744073709551616 * d)) = 0) := fun h1 => h (by omega)
    have h2 : Nat.beq (a + 18446744073709551616 * (b + 18446744073709551616 * (c + 18446744073709551616 * d))) 0 = false := by
      cases hb : Nat.beq (a + 18446744073709551616 * (b + 18446744073709551616 * (c + 18446744073709551616 * d))) 0
      · rfl
      · exact absurd (Nat.eq_of_beq_eq_true hb) h1
    rw [h2]
    by_cases ha : a = 0
    · by_cases hb : b = 0
      · by_cases hc : c = 0
        · have hd : ¬ d = 0 := fun hd => h ⟨ha, hb, hc, hd⟩
          simp [hd]
        · simp [hc]
      · simp [hb]
    · simp [ha]
theorem oddE_nat (k : Elem) : oddE k = Nat.beq (k.nat % 2) 1 := by
  have e : (k.w0 &&& 1).toNat = k.w0.toNat % 2 := by
    rw [UInt64.toNat_and]
    exact Nat.and_two_pow_sub_one_eq_mod k.w0.toNat 1
  have e2 : k.nat % 2 = k.w0.toNat % 2 := by
    unfold Sx.Elem.nat
    rw [low_two]
  rw [e2, ← e]
  unfold oddE
  by_cases h : k.w0 &&& 1 = 1
  · rw [h]; rfl
  · have h' : ¬ (k.w0 &&& 1).toNat = 1 := fun h' => h (UInt64.toNat_inj.1 h')
    have h2 : Nat.beq (k.w0 &&& 1).toNat 1 = false := by
      cases hb : Nat.beq (k.w0 &&& 1).toNat 1
      · rfl
      · exact absurd (Nat.eq_of_beq_eq_true hb) h'
    rw [h2]
    simpa using h
theorem halfE_nat (k : Elem) : (halfE k).nat = k.nat / 2 := by
  have := nat_lt k
  exact nat_ofN (by omega)
def powE (p : Nat) : Nat → Elem → Elem → Elem → Elem
  | 0, o, _, _ => o
  | n + 1, o, x, k => cond (zeroE k) o (powE p n (cond (oddE k) (mulP p o x) o) (mulP p x x) (halfE k))
def powM (p : Nat) : Nat → Nat → Nat → Nat → Nat
  | 0, o, _, _ => o
  | n + 1, o, x, k => cond (Nat.beq k 0) o (powM p n (cond (Nat.beq (k % 2) 1) (o * x % p) o) (x * x % p) (k / 2))
theorem powE_eq {p : Nat} (hp : 0 < p ∧ p < 57896044618658097711785492504343953926634992332820282019728792003956564819968) : ∀ (n : Nat) (o x k : Elem), powE p n o x k = ofN (powM p n o.nat x.nat k.nat)
  | 0, o, x, k => (ofN_self o).symm
  | n + 1, o, x, k => by
    have e : ∀ a b : Elem, (mulP p a b).nat = a.nat * b.nat % p := fun a b => rem_nat hp
    simp only [powE, powM, zeroE_nat, oddE_nat]
    cases Nat.beq k.nat 0
    · simp only [cond_false]
      rw [powE_eq hp n, e, halfE_nat]
      cases Nat.beq (k.nat % 2) 1
      · rfl
      · simp only [cond_true, e]
    · simp only [cond_true]
      exact (ofN_self o).symm
def expP (p : Nat) (a k : Elem) : Elem := cond (Nat.beq p 0) ⟨0, 0, 0, 0⟩ (ofN (powM p 256 1 (a.nat % p) k.nat))
theorem expP_def {p : Nat} (hp : 0 < p) (a k : Elem) : expP p a k = ofN (powM p 256 1 (a.nat % p) k.nat) := by
  unfold expP
  cases p with
  | zero => exact absurd hp (Nat.lt_irrefl _)
  | succ p => rfl
end Go.Proofs.Ytkedomfjjahjnaa

namespace Go.Proofs.Ytkedomfjjahjnaa
open Sx Go
set_option maxRecDepth 100000
def fexp_S : FnSpec := ⟨[.val false .int, .val true .elem, .val true .elem], [], true, 0, false⟩
abbrev fexpX : Type := ((Int) × (Elem) × (Elem) × Unit) × (Unit)
def fexp_s0 : Shape := ⟨40, [(4, .ptr 0 0 0), (5, .ptr 1 0 0), (6, .ptr 2 0 0), (7, .ptr 3 0 0), (9, .ptr 4 0 0)], [(0, .row .u64), (1, .row .u64), (2, .row .u64), (3, .cells [.val false .u64, .val false .u64, .val false .u64, .val false .u64, .val false .int, .val false .u64, .val false .u64, .val false .u64, .val false .u64, .val false .u64, .val false .u64]), (4, .row .u64)], 0, true⟩
abbrev fexp_s0X : Type := ((Unit) × (Unit) × (Unit) × (Unit) × (Unit) × Unit) × ((List (UInt64)) × (List (UInt64)) × (List (UInt64)) × ((UInt64) × (UInt64) × (UInt64) × (UInt64) × (Int) × (UInt64) × (UInt64) × (UInt64) × (UInt64) × (UInt64) × (UInt64) × Unit) × (List (UInt64)) × Unit)
def fexp_e0_0 : Shape := ⟨40, [(6, .ptr 0 0 0), (9, .ptr 1 0 0)], [(0, .row .u64), (1, .row .u64)], 0, true⟩
abbrev fexp_e0_0X : Type := ((Unit) × (Unit) × Unit) × ((List (UInt64)) × (List (UInt64)) × Unit)
def fexp_x0 : SE → Option Shape := xsMk [(0, fexp_e0_0)] none
def fexp_T0 (c0 : List (UInt64)) (c1 : List (UInt64)) (c2 : List (UInt64)) (c3_0 : UInt64) (c3_1 : UInt64) (c3_2 : UInt64) (c3_3 : UInt64) (c3_4 : Int) (c3_5 : UInt64) (c3_6 : UInt64) (c3_7 : UInt64) (c3_8 : UInt64) (c3_9 : UInt64) (c3_10 : UInt64) (c4 : List (UInt64)) : OT (Sum fexp_s0X LEnd) :=
  let z0 : Nat := List.length c1
  let z1 : Bool := decide (4 ≤ z0)
  let z2 : UInt64 := List.getD c1 0 0
  let z3 : UInt64 := List.getD c1 1 0
  let z4 : UInt64 := List.getD c1 2 0
  let z5 : UInt64 := List.getD c1 3 0
  let z6 : Nat := List.length c4
  let z7 : Nat := List.length c0
  let z8 : Bool := decide (4 ≤ z7)
  let z9 : Elem := { w0 := c3_0, w1 := c3_1, w2 := c3_2, w3 := c3_3 }
  let z10 : Elem × Int × UInt64 × UInt64 × Elem := (z9, c3_4, c3_5, c3_6, { w0 := c3_7, w1 := c3_8, w2 := c3_9, w3 := c3_10 })
  let z11 : Elem := { w0 := List.getD c4 0 0, w1 := List.getD c4 1 0, w2 := List.getD c4 2 0, w3 := List.getD c4 3 0 }
  let z12 : Elem := { w0 := List.getD c0 0 0, w1 := List.getD c0 1 0, w2 := List.getD c0 2 0, w3 := List.getD c0 3 0 }
  let z13 : Elem × PUnit := (z12, ())
  let z14 : Bool := fmul0_pre ((z10, z12, z13), ())
  let z15 : Bool := decide ((4 / 1 : Nat) + 0 ≤ z7)
  let z16 : Bool := decide ((4 / 1 : Nat) + 0 ≤ z0)
  let z17 : Nat := Elem.nat z9
  let z18 : Elem := mulP z17 z12 z12
  let z19 : List UInt64 := List.set (List.set (List.set (List.set c0 0 z18.w0) 1 z18.w1) 2 z18.w2) 3 z18.w3
  let z20 : Elem := halfE { w0 := z2, w1 := z3, w2 := z4, w3 := z5 }
  let z21 : List UInt64 := List.set (List.set (List.set (List.set c1 0 z20.w0) 1 z20.w1) 2 z20.w2) 3 z20.w3
  let z22 : Elem := mulP z17 z11 z12
  (gd [z1] (.br (!(z2 == (0 : UInt64) && (z3 == (0 : UInt64) && (z4 == (0 : UInt64) && (z5 == (0 : UInt64) && true)))))
  (gd [decide (0 < z0)] (.br (z2 &&& (1 : UInt64) == (1 : UInt64))
    (gd [decide (4 ≤ z6), z8, fmul0_pre ((z10, z11, z13), ()), decide ((4 / 1 : Nat) + 0 ≤ z6), z8, z8, z14, z15, z1, z16] (.ok (.inl (((), ((), ((), ((), ((), ()))))), (z19, (z21, (c2, ((c3_0, (c3_1, (c3_2, (c3_3, (c3_4, (c3_5, (c3_6, (c3_7, (c3_8, (c3_9, (c3_10, ()))))))))))), (List.set (List.set (List.set (List.set c4 0 z22.w0) 1 z22.w1) 2 z22.w2) 3 z22.w3, ())))))))))
    (gd [z8, z8, z14, z15, z1, z16] (.ok (.inl (((), ((), ((), ((), ((), ()))))), (z19, (z21, (c2, ((c3_0, (c3_1, (c3_2, (c3_3, (c3_4, (c3_5, (c3_6, (c3_7, (c3_8, (c3_9, (c3_10, ()))))))))))), (c4, ())))))))))))
  (.ok (.inr ⟨(.exit 0, fexp_e0_0), (((), ((), ())), (c2, (c4, ())))⟩))))
def fexp_U0 (s : fexp_s0X) : OT (Sum fexp_s0X LEnd) := fexp_T0 (s.2.1) (s.2.2.1) (s.2.2.2.1) (s.2.2.2.2.1.1) (s.2.2.2.2.1.2.1) (s.2.2.2.2.1.2.2.1) (s.2.2.2.2.1.2.2.2.1) (s.2.2.2.2.1.2.2.2.2.1) (s.2.2.2.2.1.2.2.2.2.2.1) (s.2.2.2.2.1.2.2.2.2.2.2.1) (s.2.2.2.2.1.2.2.2.2.2.2.2.1) (s.2.2.2.2.1.2.2.2.2.2.2.2.2.1) (s.2.2.2.2.1.2.2.2.2.2.2.2.2.2.1) (s.2.2.2.2.1.2.2.2.2.2.2.2.2.2.2.1) (s.2.2.2.2.2.1)
theorem fexp_q0 (s : fexp_s0X) (Q : Sum fexp_s0X LEnd → Prop) : wps te E_fhalves lamNil 1000 (loopOf (codeOf Try.f100) 0) (fexp_s0.inj s) (stepK fexp_s0 fexp_x0 (Q : Sum fexp_s0.T LEnd → Prop)) = (fexp_U0 s).wpR Q := by kernel_rfl
def fexp_f0 (g0_0 : fexp_s0X → fexp_e0_0X) (s : fexp_s0X) : OT LEnd := (.ok ⟨(.exit 0, fexp_e0_0), g0_0 s⟩)
def fexp_o0 : OutSh := ⟨[.val true .elem], [], false⟩
def fexp_sel : SV → Option OutSh := fun _ => some fexp_o0
def fexp_T (ok0 : fexp_s0X → Bool) (g0_0 : fexp_s0X → fexp_e0_0X) (a0 : Int) (a1 : Elem) (a2 : Elem) : OT fexp_S.Y :=
  let z0 : Elem × Int × UInt64 × UInt64 × Elem := numOf (Int.toNat a0)
  let z1 := z0.fst
  let z2 : Elem := ofN (Elem.nat a1 % Elem.nat z1)
  let z3 := z0.snd
  let z4 := z3.snd
  let z5 := z4.snd
  let z6 := z5.snd
  let z7 : (PUnit × PUnit × PUnit × PUnit × PUnit × PUnit) × List UInt64 × List UInt64 × List UInt64 × (UInt64 × UInt64 × UInt64 × UInt64 × Int × UInt64 × UInt64 × UInt64 × UInt64 × UInt64 × UInt64 × PUnit) × List UInt64 × PUnit := (((), (), (), (), (), ()), [z2.w0, z2.w1, z2.w2, z2.w3], [a2.w0, a2.w1, a2.w2, a2.w3], [(0 : UInt64), (0 : UInt64), (0 : UInt64), (0 : UInt64)], (z1.w0, z1.w1, z1.w2, z1.w3, z3.fst, z4.fst, z5.fst, z6.w0, z6.w1, z6.w2, z6.w3, ()), [(1 : UInt64), (0 : UInt64), (0 : UInt64), (0 : UInt64)], ())
  let z8 := (g0_0 z7).snd
  let z9 := z8.snd.fst
  let z10 := z8.fst
  let z11 : List UInt64 := lay z10 z9 4 (0 : UInt64)
  (.br (sortOk a0)
  (gd [fred_pre ((z0, a1, ()), ()), ok0 z7, decide (4 ≤ List.length z9), decide ((4 / 1 : Nat) + 0 ≤ List.length z10), decide (4 ≤ List.length z11)] (.ok ⟨fexp_o0, (({ w0 := List.getD z11 0 0, w1 := List.getD z11 1 0, w2 := List.getD z11 2 0, w3 := List.getD z11 3 0 }, ()), ())⟩))
  (.ok ⟨fexp_o0, (({ w0 := 0, w1 := 0, w2 := 0, w3 := 0 }, ()), ())⟩))
theorem fexp_q (ok0 : fexp_s0X → Bool) (g0_0 : fexp_s0X → fexp_e0_0X) (x : fexpX) (Q : fexp_S.Y → Prop) : wpf te E_fhalves (lamCons 0 (loopF fexp_s0 0 ok0 (fexp_f0 g0_0)) lamNil) 1000 Try.f100 (fexp_S.inp.inj x).tm (fexp_S.inp.inj x).hp (fnK fexp_S fexp_sel Q) (fun _ _ => False) = (fexp_T ok0 g0_0 (x.1.1) (x.1.2.1) (x.1.2.2.1)).wpR Q := by kernel_rfl
theorem fexp_main (ok0 : fexp_s0X → Bool) (g0_0 : fexp_s0X → fexp_e0_0X) (h0 : ∀ s : fexp_s0X, ok0 s = true → ∃ m e, loopRun (fexp_U0) m s = some e ∧ (fexp_f0 g0_0 s).run = some e) (pre : fexpX → Bool) (F : fexpX → OT fexp_S.Y) (hF : ∀ (x : fexpX) oy, pre x = true → (F x).run = some oy → (fexp_T ok0 g0_0 (x.1.1) (x.1.2.1) (x.1.2.2.1)).run = some oy) : SummOk Try.prog 100 (fexp_S.summ pre F) :=
  fn_tree te_ok E_fhalves_ok E_fhalves_any (f := 100) (fn := Try.f100) (c := codeOf Try.f100) (by kernel_rfl) (by kernel_rfl) (by kernel_rfl) (S := fexp_S) (k := 0) (by kernel_rfl) (fun R hR => (lamOk_cons (c := (codeOf Try.f100)) (by kernel_rfl) (id := 0) (by kernel_rfl) (loop_ok te_ok E_fhalves_ok E_fhalves_any (sh := fexp_s0) hR (xs := fexp_x0) (xsMk_small (by kernel_rfl) (by kernel_rfl) hR) xsMk_pan lamOk_nil (n := 1000) (T := fexp_U0) (fun s Q => fexp_q0 s Q) (ok := ok0) (f := fexp_f0 g0_0) h0) lamOk_nil)) (n := 1000) (sel := fexp_sel) (fun v o h => by cases h; rfl) (pre := pre) (F := F) (T := fun x => fexp_T ok0 g0_0 (x.1.1) (x.1.2.1) (x.1.2.2.1)) (fun x Q => fexp_q ok0 g0_0 x Q) hF
theorem fexp_loop {x0 x1 x2 x3 x5 x6 x7 x8 x9 x10 : UInt64} {x4 : Int} {c2 : List UInt64} (hn : numOk (⟨x0, x1, x2, x3⟩, x4, x5, x6, ⟨x7, x8, x9, x10⟩) = true) : ∀ (n : Nat) (o x k : Elem), k.nat < 2 ^ n →
    ∃ m, loopRun fexp_U0 m (((), (), (), (), (), ()), (lst x, lst k, c2, (x0, x1, x2, x3, x4, x5, x6, x7, x8, x9, x10, ()), lst o, ())) = some ⟨(.exit 0, fexp_e0_0), (((), (), ()), (c2, lst (powE (Elem.mk x0 x1 x2 x3).nat n o x k), ()))⟩ := by
  intro n
  induction n with
  | zero =>
    intro o x k hk
    have hz : (!zeroE k) = false := by
      rw [zeroE_nat, show k.nat = 0 by omega]
      rfl
    exact ⟨1, loopRun_out ((gd_run rfl).trans (OT.run_f hz))⟩
  | succ n ih =>
    intro o x k hk
    cases hz : zeroE k
    · have hk2 : (halfE k).nat < 2 ^ n := by
        rw [halfE_nat]
        rw [Nat.pow_succ] at hk
        omega
      have hz' : (!zeroE k) = true := by rw [hz]; rfl
      cases ho : oddE k
      · obtain ⟨m, hm⟩ := ih o (mulP (Elem.mk x0 x1 x2 x3).nat x x) (halfE k) hk2
        simp only [powE, hz, ho, cond_false]
        refine ⟨m + 1, loopRun_more ?_ hm⟩
        refine (gd_run rfl).trans ((OT.run_t hz').trans ((gd_run rfl).trans ((OT.run_f ho).trans ((gd_run ?_).trans rfl))))
        simp only [List.all_cons, List.all_nil, Bool.and_true, Bool.and_eq_true]
        exact ⟨rfl, rfl, hn, rfl, rfl, rfl⟩
      · obtain ⟨m, hm⟩ := ih (mulP (Elem.mk x0 x1 x2 x3).nat o x) (mulP (Elem.mk x0 x1 x2 x3).nat x x) (halfE k) hk2
        simp only [powE, hz, ho, cond_false, cond_true]
        refine ⟨m + 1, loopRun_more ?_ hm⟩
        refine (gd_run rfl).trans ((OT.run_t hz').trans ((gd_run rfl).trans ((OT.run_t ho).trans ((gd_run ?_).trans rfl))))
        simp only [List.all_cons, List.all_nil, Bool.and_true, Bool.and_eq_true]
        exact ⟨rfl, rfl, hn, rfl, rfl, rfl, hn, rfl, rfl, rfl⟩
    · simp only [powE, hz, cond_true]
      have hz' : (!zeroE k) = false := by rw [hz]; rfl
      exact ⟨1, loopRun_out ((gd_run rfl).trans (OT.run_f hz'))⟩
def cNum (s : fexp_s0X) : NumX := (⟨s.2.2.2.2.1.1, s.2.2.2.2.1.2.1, s.2.2.2.2.1.2.2.1, s.2.2.2.2.1.2.2.2.1⟩, s.2.2.2.2.1.2.2.2.2.1, s.2.2.2.2.1.2.2.2.2.2.1, s.2.2.2.2.1.2.2.2.2.2.2.1, ⟨s.2.2.2.2.1.2.2.2.2.2.2.2.1, s.2.2.2.2.1.2.2.2.2.2.2.2.2.1, s.2.2.2.2.1.2.2.2.2.2.2.2.2.2.1, s.2.2.2.2.1.2.2.2.2.2.2.2.2.2.2.1⟩)
def fexp_ok0 (s : fexp_s0X) : Bool := numOk (cNum s) && decide (s.2.1.length = 4 ∧ s.2.2.1.length = 4 ∧ s.2.2.2.2.2.1.length = 4)
def fexp_g0 (s : fexp_s0X) : fexp_e0_0X := (((), (), ()), (s.2.2.2.1, lst (powE (cNum s).1.nat 256 (elemOf s.2.2.2.2.2.1) (elemOf s.2.1) (elemOf s.2.2.1)), ()))
theorem fexp_h0 : ∀ s : fexp_s0X, fexp_ok0 s = true → ∃ m e, loopRun fexp_U0 m s = some e ∧ (fexp_f0 fexp_g0 s).run = some e := by
  rintro ⟨⟨⟨⟩, ⟨⟩, ⟨⟩, ⟨⟩, ⟨⟩, ⟨⟩⟩, ⟨c0, c1, c2, ⟨x0, x1, x2, x3, x4, x5, x6, x7, x8, x9, x10, ⟨⟩⟩, c4, ⟨⟩⟩⟩ h
  simp only [fexp_ok0, Bool.and_eq_true, decide_eq_true_eq, cNum] at h
  obtain ⟨hn, h0, h1, h4⟩ := h
  obtain ⟨x, rfl⟩ : ∃ a, c0 = lst a := ⟨elemOf c0, (lst_elemOf h0).symm⟩
  obtain ⟨k, rfl⟩ : ∃ a, c1 = lst a := ⟨elemOf c1, (lst_elemOf h1).symm⟩
  obtain ⟨o, rfl⟩ : ∃ a, c4 = lst a := ⟨elemOf c4, (lst_elemOf h4).symm⟩
  obtain ⟨m, hm⟩ := fexp_loop (c2 := c2) hn 256 o x k (nat_lt k)
  exact ⟨m, _, hm, rfl⟩
def fexp_pre (_ : fexpX) : Bool := true
def fexp_F (x : fexpX) : OT fexp_S.Y := .br (sortOk x.1.1) (.ok ⟨fexp_o0, ((expP (pS x.1.1) x.1.2.1 x.1.2.2.1, ()), ())⟩) (.ok ⟨fexp_o0, ((⟨0, 0, 0, 0⟩, ()), ())⟩)
theorem fexp_fin {p : Nat} (hp : 0 < p ∧ p < 57896044618658097711785492504343953926634992332820282019728792003956564819968) (a k : Elem) : elemOf (lay [0, 0, 0, 0] (lst (powE p 256 ⟨1, 0, 0, 0⟩ (ofN (a.nat % p)) k)) 4 0) = expP p a k := by
  rw [lay4 _ _ rfl rfl, elemOf_lst, powE_eq hp, rem_nat hp, expP_def hp.1]
  rfl
theorem fexp_ok : SummOk Try.prog 100 (fexp_S.summ fexp_pre fexp_F) := fexp_main fexp_ok0 fexp_g0 fexp_h0 _ _ fun x oy hp ho => by
  rw [← ho]
  clear ho
  obtain ⟨⟨s, a, k, ⟨⟩⟩, ⟨⟩⟩ := x
  cases hs : sortOk s
  · exact (OT.run_f hs).trans (OT.run_f (b := sortOk s) hs).symm
  · have hn := numOk_of hs
    have hfin := fexp_fin (pS_pos hs) a k
    have hn2 : numOk (numOf s.toNat) = true := hn
    refine (OT.run_t hs).trans (Eq.trans ?_ (OT.run_t (b := sortOk s) hs).symm)
    simp only [← hfin]
    refine (gd_run ?_).trans rfl
    simp only [List.all_cons, List.all_nil, Bool.and_true, Bool.and_eq_true]
    refine ⟨hn, ?_, rfl, rfl, rfl⟩
    show (numOk _ && decide _) = true
    rw [Bool.and_eq_true]
    exact ⟨hn, decide_eq_true ⟨rfl, rfl, rfl⟩⟩
def fexp_summ : Summ := (fexp_S.summ fexp_pre fexp_F)
theorem fexp_known : SummOk Try.prog 100 fexp_summ := fexp_ok
theorem fexp_smono : MonoOk fexp_summ := fn_mono
def E_fexp : Env := envCons 100 fexp_summ E_fhalves
theorem E_fexp_ok : EnvOk Try.prog E_fexp := envOk_cons fexp_known E_fhalves_ok
theorem E_fexp_mono : EnvMono E_fexp := envMono_cons fexp_smono E_fhalves_mono
theorem E_fexp_any : AnyOk Try.prog te E_fexp := any_ok follows te_ok E_fexp_ok E_fexp_mono
def finv_S : FnSpec := ⟨[.val false .int, .val true .elem], [], true, 0, false⟩
abbrev finvX : Type := ((Int) × (Elem) × Unit) × (Unit)
def finv_o0 : OutSh := ⟨[.val true .elem, .val false .int], [], false⟩
def finv_sel : SV → Option OutSh := fun _ => some finv_o0
def finv_T (a0 : Int) (a1 : Elem) : OT finv_S.Y :=
  let z0 : Bool := sortOk a0
  let z1 : Elem × Int × UInt64 × UInt64 × Elem := numOf (Int.toNat a0)
  let z2 := z1.fst
  let z3 : Elem := ofN (Elem.nat a1 % Elem.nat z2)
  let z4 : Elem := { w0 := 0, w1 := 0, w2 := 0, w3 := 0 }
  (.br (z0)
  (gd [fred_pre ((z1, a1, ()), ())] (.br (z3.w0 == (0 : UInt64) && (z3.w1 == (0 : UInt64) && (z3.w2 == (0 : UInt64) && (z3.w3 == (0 : UInt64) && true))))
    (.ok ⟨finv_o0, ((z4, ((10 : Int), ())), ())⟩)
    (.br (z0)
      (.ok ⟨finv_o0, ((expP (pS a0) a1 (wdif z2 { w0 := 2, w1 := 0, w2 := 0, w3 := 0 }).fst, ((0 : Int), ())), ())⟩)
      (.ok ⟨finv_o0, ((z4, ((0 : Int), ())), ())⟩))))
  (.ok ⟨finv_o0, ((z4, ((20 : Int), ())), ())⟩))
theorem finv_q (x : finvX) (Q : finv_S.Y → Prop) : wpf te E_fexp lamNil 1000 Try.f84 (finv_S.inp.inj x).tm (finv_S.inp.inj x).hp (fnK finv_S finv_sel Q) (fun _ _ => False) = (finv_T (x.1.1) (x.1.2.1)).wpR Q := by kernel_rfl
theorem finv_main (pre : finvX → Bool) (F : finvX → OT finv_S.Y) (hF : ∀ (x : finvX) oy, pre x = true → (F x).run = some oy → (finv_T (x.1.1) (x.1.2.1)).run = some oy) : SummOk Try.prog 84 (finv_S.summ pre F) :=
  fn_tree te_ok E_fexp_ok E_fexp_any (f := 84) (fn := Try.f84) (c := codeOf Try.f84) (by kernel_rfl) (by kernel_rfl) (by kernel_rfl) (S := finv_S) (k := 0) (by kernel_rfl) (fun R hR => lamOk_nil) (n := 1000) (sel := finv_sel) (fun v o h => by cases h; rfl) (pre := pre) (F := F) (T := fun x => finv_T (x.1.1) (x.1.2.1)) (fun x Q => finv_q x Q) hF
def invP (p : Nat) (a : Elem) : Elem := ofN (powM p 256 1 (a.nat % p) (p - 2))
theorem pS_two {s : Int} (h : sortOk s = true) : 2 ≤ pS s := by
  rcases sortOk_cases h with rfl | rfl | rfl | rfl <;> decide +kernel
theorem inv_exp {s : Int} (h : sortOk s = true) (a : Elem) : expP (pS s) a (wdif (numOf s.toNat).1 ⟨2, 0, 0, 0⟩).1 = invP (pS s) a := by
  rw [expP_def (pS_pos h).1]
  unfold invP
  have h2 : 2 ≤ (numOf s.toNat).1.nat := pS_two h
  rw [wdif_nat (show (Elem.mk 2 0 0 0).nat ≤ _ from h2)]
  rfl
theorem zero_rem {p : Nat} (hp : 0 < p ∧ p < 57896044618658097711785492504343953926634992332820282019728792003956564819968) (n : Nat) : zeroE (ofN (n % p)) = Nat.beq (n % p) 0 := by
  rw [zeroE_nat, rem_nat hp]
def finv_pre (_ : finvX) : Bool := true
def finv_F (x : finvX) : OT finv_S.Y := .br (sortOk x.1.1) (.br (Nat.beq (x.1.2.1.nat % pS x.1.1) 0) (.ok ⟨finv_o0, ((⟨0, 0, 0, 0⟩, ((10 : Int), ())), ())⟩) (.ok ⟨finv_o0, ((invP (pS x.1.1) x.1.2.1, ((0 : Int), ())), ())⟩))
  (.ok ⟨finv_o0, ((⟨0, 0, 0, 0⟩, ((20 : Int), ())), ())⟩)
theorem finv_ok : SummOk Try.prog 84 (finv_S.summ finv_pre finv_F) := finv_main _ _ fun x oy hp ho => by
  rw [← ho]
  clear ho
  obtain ⟨⟨s, a, ⟨⟩⟩, ⟨⟩⟩ := x
  cases hs : sortOk s
  · exact (OT.run_f hs).trans (OT.run_f (b := sortOk s) hs).symm
  · have hz : zeroE (ofN (a.nat % pS s)) = Nat.beq (a.nat % pS s) 0 := zero_rem (pS_pos hs) _
    refine (OT.run_t hs).trans (Eq.trans ((gd_run ?_).trans ?_) (OT.run_t (b := sortOk s) hs).symm)
    · simp only [List.all_cons, List.all_nil, Bool.and_true]
      exact numOk_of hs
    · cases hb : Nat.beq (a.nat % pS s) 0
      · rw [hb] at hz
        refine (OT.run_f hz).trans ((OT.run_t hs).trans (Eq.trans ?_ (OT.run_f rfl).symm))
        simp only [inv_exp hs]
      · rw [hb] at hz
        exact (OT.run_t hz).trans (OT.run_t rfl).symm
def finv_summ : Summ := (finv_S.summ finv_pre finv_F)
theorem finv_known : SummOk Try.prog 84 finv_summ := finv_ok
theorem finv_smono : MonoOk finv_summ := fn_mono
def E_finv : Env := envCons 84 finv_summ E_fexp
theorem E_finv_ok : EnvOk Try.prog E_finv := envOk_cons finv_known E_fexp_ok
theorem E_finv_mono : EnvMono E_finv := envMono_cons finv_smono E_fexp_mono
theorem E_finv_any : AnyOk Try.prog te E_finv := any_ok follows te_ok E_finv_ok E_finv_mono
def cconst_S : FnSpec := ⟨[.val false .int], [], true, 0, false⟩
abbrev cconstX : Type := ((Int) × Unit) × (Unit)
def cconst_o0 : OutSh := ⟨[.val true .elem, .val false .bool], [], false⟩
def cconst_sel : SV → Option OutSh := fun _ => some cconst_o0
def cconst_T (a0 : Int) : OT cconst_S.Y :=
  let z0 : Elem := { w0 := 5, w1 := 0, w2 := 0, w3 := 0 }
  let z1 : Elem := { w0 := 0, w1 := 0, w2 := 0, w3 := 0 }
  (.br (a0 == (0 : Int))
  (.ok ⟨cconst_o0, (({ w0 := 23, w1 := 0, w2 := 0, w3 := 0 }, (true, ())), ())⟩)
  (.br (a0 == (1 : Int))
    (.ok ⟨cconst_o0, (({ w0 := 21, w1 := 0, w2 := 0, w3 := 0 }, (true, ())), ())⟩)
    (.br (a0 == (2 : Int))
      (.br (a0 == (2 : Int))
        (.ok ⟨cconst_o0, ((z0, (true, ())), ())⟩)
        (.ok ⟨cconst_o0, ((z1, (false, ())), ())⟩))
      (.br (a0 == (3 : Int))
        (.ok ⟨cconst_o0, ((z0, (true, ())), ())⟩)
        (.ok ⟨cconst_o0, ((z1, (false, ())), ())⟩)))))
theorem cconst_q (x : cconstX) (Q : cconst_S.Y → Prop) : wpf te E_finv lamNil 1000 Try.f57 (cconst_S.inp.inj x).tm (cconst_S.inp.inj x).hp (fnK cconst_S cconst_sel Q) (fun _ _ => False) = (cconst_T (x.1.1)).wpR Q := by kernel_rfl
theorem cconst_main (pre : cconstX → Bool) (F : cconstX → OT cconst_S.Y) (hF : ∀ (x : cconstX) oy, pre x = true → (F x).run = some oy → (cconst_T (x.1.1)).run = some oy) : SummOk Try.prog 57 (cconst_S.summ pre F) :=
  fn_tree te_ok E_finv_ok E_finv_any (f := 57) (fn := Try.f57) (c := codeOf Try.f57) (by kernel_rfl) (by kernel_rfl) (by kernel_rfl) (S := cconst_S) (k := 0) (by kernel_rfl) (fun R hR => lamOk_nil) (n := 1000) (sel := cconst_sel) (fun v o h => by cases h; rfl) (pre := pre) (F := F) (T := fun x => cconst_T (x.1.1)) (fun x Q => cconst_q x Q) hF
def bOf : Nat → Elem
  | 0 => ⟨23, 0, 0, 0⟩
  | 1 => ⟨21, 0, 0, 0⟩
  | _ => ⟨5, 0, 0, 0⟩
abbrev bS (s : Int) : Elem := bOf s.toNat
def cconst_pre (_ : cconstX) : Bool := true
def cconst_F (x : cconstX) : OT cconst_S.Y := .br (sortOk x.1.1) (.ok ⟨cconst_o0, ((bS x.1.1, (true, ())), ())⟩) (.ok ⟨cconst_o0, ((⟨0, 0, 0, 0⟩, (false, ())), ())⟩)
theorem cconst_ok : SummOk Try.prog 57 (cconst_S.summ cconst_pre cconst_F) := cconst_main _ _ fun x oy _ ho => by
  rw [← ho]
  clear ho
  obtain ⟨⟨s, ⟨⟩⟩, ⟨⟩⟩ := x
  cases hs : sortOk s
  · obtain ⟨h0, h1, h2, h3⟩ := sortOk_not hs
    exact (OT.run_f h0).trans ((OT.run_f h1).trans ((OT.run_f h2).trans ((OT.run_f h3).trans (OT.run_f (b := sortOk s) hs).symm)))
  · rcases sortOk_cases hs with h | h | h | h
    all_goals
      have h : s = _ := h
      subst h
      rfl
def cconst_summ : Summ := (cconst_S.summ cconst_pre cconst_F)
theorem cconst_known : SummOk Try.prog 57 cconst_summ := cconst_ok
theorem cconst_smono : MonoOk cconst_summ := fn_mono
def E_cconst : Env := envCons 57 cconst_summ E_finv
theorem E_cconst_ok : EnvOk Try.prog E_cconst := envOk_cons cconst_known E_finv_ok
theorem E_cconst_mono : EnvMono E_cconst := envMono_cons cconst_smono E_finv_mono
theorem E_cconst_any : AnyOk Try.prog te E_cconst := any_ok follows te_ok E_cconst_ok E_cconst_mono
def cinf_S : FnSpec := ⟨[], [], true, 0, false⟩
abbrev cinfX : Type := (Unit) × (Unit)
def cinf_o0 : OutSh := ⟨[.val true (.prod .elem (.prod .elem .bool))], [], false⟩
def cinf_sel : SV → Option OutSh := fun _ => some cinf_o0
def cinf_T : OT cinf_S.Y :=
  let z0 : Elem := { w0 := 0, w1 := 0, w2 := 0, w3 := 0 }
  (.ok ⟨cinf_o0, (((z0, z0, true), ()), ())⟩)
theorem cinf_q (x : cinfX) (Q : cinf_S.Y → Prop) : wpf te E_cconst lamNil 1000 Try.f27 (cinf_S.inp.inj x).tm (cinf_S.inp.inj x).hp (fnK cinf_S cinf_sel Q) (fun _ _ => False) = (cinf_T).wpR Q := by kernel_rfl
theorem cinf_main (pre : cinfX → Bool) (F : cinfX → OT cinf_S.Y) (hF : ∀ (x : cinfX) oy, pre x = true → (F x).run = some oy → (cinf_T).run = some oy) : SummOk Try.prog 27 (cinf_S.summ pre F) :=
  fn_tree te_ok E_cconst_ok E_cconst_any (f := 27) (fn := Try.f27) (c := codeOf Try.f27) (by kernel_rfl) (by kernel_rfl) (by kernel_rfl) (S := cinf_S) (k := 0) (by kernel_rfl) (fun R hR => lamOk_nil) (n := 1000) (sel := cinf_sel) (fun v o h => by cases h; rfl) (pre := pre) (F := F) (T := fun x => cinf_T) (fun x Q => cinf_q x Q) hF
def inftyP : Elem × (Elem × Bool) := (⟨0, 0, 0, 0⟩, ⟨0, 0, 0, 0⟩, true)
def cinf_pre (_ : cinfX) : Bool := true
def cinf_F (_ : cinfX) : OT cinf_S.Y := .ok ⟨cinf_o0, ((inftyP, ()), ())⟩
theorem cinf_ok : SummOk Try.prog 27 (cinf_S.summ cinf_pre cinf_F) := cinf_main _ _ fun x oy _ ho => ho
def cinf_summ : Summ := (cinf_S.summ cinf_pre cinf_F)
theorem cinf_known : SummOk Try.prog 27 cinf_summ := cinf_ok
theorem cinf_smono : MonoOk cinf_summ := fn_mono
def E_cinf : Env := envCons 27 cinf_summ E_cconst
theorem E_cinf_ok : EnvOk Try.prog E_cinf := envOk_cons cinf_known E_cconst_ok
theorem E_cinf_mono : EnvMono E_cinf := envMono_cons cinf_smono E_cconst_mono
theorem E_cinf_any : AnyOk Try.prog te E_cinf := any_ok follows te_ok E_cinf_ok E_cinf_mono
def ccube_S : FnSpec := ⟨[.val false .int, .val true .elem, .val true .elem], [], true, 0, false⟩
abbrev ccubeX : Type := ((Int) × (Elem) × (Elem) × Unit) × (Unit)
def ccube_o0 : OutSh := ⟨[.val true .elem], [], false⟩
def ccube_sel : SV → Option OutSh := fun _ => some ccube_o0
def ccube_T (a0 : Int) (a1 : Elem) (a2 : Elem) : OT ccube_S.Y :=
  let z0 : Bool := sortOk a0
  let z1 : Nat := pS a0
  let z2 : Elem := { w0 := 0, w1 := 0, w2 := 0, w3 := 0 }
  let z3 : Elem := addP z1 z2 a2
  (.br (z0)
  (.br (z0)
    (.br (z0)
      (.ok ⟨ccube_o0, ((addP z1 (mulP z1 (mulP z1 a1 a1) a1) a2, ()), ())⟩)
      (.ok ⟨ccube_o0, ((z2, ()), ())⟩))
    (.br (z0)
      (.ok ⟨ccube_o0, ((z3, ()), ())⟩)
      (.ok ⟨ccube_o0, ((z2, ()), ())⟩)))
  (.br (z0)
    (.br (z0)
      (.ok ⟨ccube_o0, ((addP z1 (mulP z1 z2 a1) a2, ()), ())⟩)
      (.ok ⟨ccube_o0, ((z2, ()), ())⟩))
    (.br (z0)
      (.ok ⟨ccube_o0, ((z3, ()), ())⟩)
      (.ok ⟨ccube_o0, ((z2, ()), ())⟩))))
theorem ccube_q (x : ccubeX) (Q : ccube_S.Y → Prop) : wpf te E_cinf lamNil 1000 Try.f61 (ccube_S.inp.inj x).tm (ccube_S.inp.inj x).hp (fnK ccube_S ccube_sel Q) (fun _ _ => False) = (ccube_T (x.1.1) (x.1.2.1) (x.1.2.2.1)).wpR Q := by kernel_rfl
theorem ccube_main (pre : ccubeX → Bool) (F : ccubeX → OT ccube_S.Y) (hF : ∀ (x : ccubeX) oy, pre x = true → (F x).run = some oy → (ccube_T (x.1.1) (x.1.2.1) (x.1.2.2.1)).run = some oy) : SummOk Try.prog 61 (ccube_S.summ pre F) :=
  fn_tree te_ok E_cinf_ok E_cinf_any (f := 61) (fn := Try.f61) (c := codeOf Try.f61) (by kernel_rfl) (by kernel_rfl) (by kernel_rfl) (S := ccube_S) (k := 0) (by kernel_rfl) (fun R hR => lamOk_nil) (n := 1000) (sel := ccube_sel) (fun v o h => by cases h; rfl) (pre := pre) (F := F) (T := fun x => ccube_T (x.1.1) (x.1.2.1) (x.1.2.2.1)) (fun x Q => ccube_q x Q) hF
def cubeP (p : Nat) (x b : Elem) : Elem := addP p (mulP p (mulP p x x) x) b
def ccube_pre (x : ccubeX) : Bool := sortOk x.1.1
def ccube_F (x : ccubeX) : OT ccube_S.Y := .ok ⟨ccube_o0, ((cubeP (pS x.1.1) x.1.2.1 x.1.2.2.1, ()), ())⟩
theorem ccube_ok : SummOk Try.prog 61 (ccube_S.summ ccube_pre ccube_F) := ccube_main _ _ fun x oy hp ho => by
  rw [← ho]
  clear ho
  obtain ⟨⟨s, a, b, ⟨⟩⟩, ⟨⟩⟩ := x
  have hs : sortOk s = true := hp
  exact (OT.run_t hs).trans ((OT.run_t hs).trans ((OT.run_t hs).trans rfl))
def ccube_summ : Summ := (ccube_S.summ ccube_pre ccube_F)
theorem ccube_known : SummOk Try.prog 61 ccube_summ := ccube_ok
theorem ccube_smono : MonoOk ccube_summ := fn_mono
def E_ccube : Env := envCons 61 ccube_summ E_cinf
theorem E_ccube_ok : EnvOk Try.prog E_ccube := envOk_cons ccube_known E_cinf_ok
theorem E_ccube_mono : EnvMono E_ccube := envMono_cons ccube_smono E_cinf_mono
theorem E_ccube_any : AnyOk Try.prog te E_ccube := any_ok follows te_ok E_ccube_ok E_ccube_mono
def con_S : FnSpec := ⟨[.val false .int, .val true (.prod .elem (.prod .elem .bool))], [], true, 0, false⟩
abbrev conX : Type := ((Int) × ((Elem × (Elem × Bool))) × Unit) × (Unit)
def con_o0 : OutSh := ⟨[.val false .bool], [], false⟩
def con_sel : SV → Option OutSh := fun _ => some con_o0
def con_T (a0 : Int) (a1 : (Elem × (Elem × Bool))) : OT con_S.Y :=
  let z0 : Bool := sortOk a0
  let z1 : Nat := Elem.nat (numOf (Int.toNat a0)).fst
  let z2 : Elem := bS a0
  let z3 : Bool := ccube_pre ((a0, a1.fst, z2, ()), ())
  let z4 : Nat := pS a0
  let z5 : Elem := mulP z4 a1.snd.fst a1.snd.fst
  let z6 : Elem := cubeP z4 a1.fst z2
  let z7 := z6.w0
  let z8 := z6.w1
  let z9 := z6.w2
  let z10 := z6.w3
  (.br (z0)
  (.br (a1.snd.snd)
    (.ok ⟨con_o0, ((a1.fst.w0 == (0 : UInt64) && (a1.fst.w1 == (0 : UInt64) && (a1.fst.w2 == (0 : UInt64) && (a1.fst.w3 == (0 : UInt64) && true))) && (a1.snd.fst.w0 == (0 : UInt64) && (a1.snd.fst.w1 == (0 : UInt64) && (a1.snd.fst.w2 == (0 : UInt64) && (a1.snd.fst.w3 == (0 : UInt64) && true))) && (a1.snd.snd == true && true)), ()), ())⟩)
    (.br (z0)
      (.br (Nat.blt (Elem.nat a1.fst) z1)
        (.br (Nat.blt (Elem.nat a1.snd.fst) z1)
          (.br (z0)
            (gd [z3] (.ok ⟨con_o0, ((z5.w0 == z7 && (z5.w1 == z8 && (z5.w2 == z9 && (z5.w3 == z10 && true))), ()), ())⟩))
            (gd [z3] (.ok ⟨con_o0, (((0 : UInt64) == z7 && ((0 : UInt64) == z8 && ((0 : UInt64) == z9 && ((0 : UInt64) == z10 && true))), ()), ())⟩)))
          (.ok ⟨con_o0, ((false, ()), ())⟩))
        (.ok ⟨con_o0, ((false, ()), ())⟩))
      (.ok ⟨con_o0, ((false, ()), ())⟩)))
  (.ok ⟨con_o0, ((false, ()), ())⟩))
theorem con_q (x : conX) (Q : con_S.Y → Prop) : wpf te E_ccube lamNil 1000 Try.f21 (con_S.inp.inj x).tm (con_S.inp.inj x).hp (fnK con_S con_sel Q) (fun _ _ => False) = (con_T (x.1.1) (x.1.2.1)).wpR Q := by kernel_rfl
theorem con_main (pre : conX → Bool) (F : conX → OT con_S.Y) (hF : ∀ (x : conX) oy, pre x = true → (F x).run = some oy → (con_T (x.1.1) (x.1.2.1)).run = some oy) : SummOk Try.prog 21 (con_S.summ pre F) :=
  fn_tree te_ok E_ccube_ok E_ccube_any (f := 21) (fn := Try.f21) (c := codeOf Try.f21) (by kernel_rfl) (by kernel_rfl) (by kernel_rfl) (S := con_S) (k := 0) (by kernel_rfl) (fun R hR => lamOk_nil) (n := 1000) (sel := con_sel) (fun v o h => by cases h; rfl) (pre := pre) (F := F) (T := fun x => con_T (x.1.1) (x.1.2.1)) (fun x Q => con_q x Q) hF
def eqE (a b : Elem) : Bool := (a.w0 == b.w0 && (a.w1 == b.w1 && (a.w2 == b.w2 && (a.w3 == b.w3 && true))))
theorem eqE_iff {a b : Elem} : eqE a b = true ↔ a = b := by
  obtain ⟨a0, a1, a2, a3⟩ := a
  obtain ⟨b0, b1, b2, b3⟩ := b
  simp [eqE]
theorem eqE_self (a : Elem) : eqE a a = true := eqE_iff.2 rfl
theorem eqE_nat (a b : Elem) : eqE a b = Nat.beq a.nat b.nat := by
  cases h : eqE a b
  · cases hb : Nat.beq a.nat b.nat
    · rfl
    · rw [eqE_iff.2 (nat_inj (Nat.eq_of_beq_eq_true hb))] at h
      cases h
  · rw [eqE_iff.1 h]
    exact (Nat.beq_refl _).symm
abbrev Pt : Type := Elem × (Elem × Bool)
def onB (c : Int) (P : Pt) : Bool := cond (sortOk c) (cond P.2.2 (zeroE P.1 && (zeroE P.2.1 && (P.2.2 == true && true)))
  (cond (Nat.blt P.1.nat (pS c)) (cond (Nat.blt P.2.1.nat (pS c)) (eqE (mulP (pS c) P.2.1 P.2.1) (cubeP (pS c) P.1 (bS c))) false) false)) false
def con_pre (_ : conX) : Bool := true
def con_F (x : conX) : OT con_S.Y := .ok ⟨con_o0, ((onB x.1.1 x.1.2.1, ()), ())⟩
theorem con_ok : SummOk Try.prog 21 (con_S.summ con_pre con_F) := con_main _ _ fun x oy _ ho => by
  rw [← ho]
  clear ho
  obtain ⟨⟨c, ⟨X, Y, i⟩, ⟨⟩⟩, ⟨⟩⟩ := x
  show _ = (OT.ok ⟨con_o0, ((onB c (X, Y, i), ()), ())⟩ : OT con_S.Y).run
  unfold onB
  cases hs : sortOk c
  · exact OT.run_f hs
  · refine (OT.run_t hs).trans ?_
    cases i
    · refine (OT.run_f rfl).trans ((OT.run_t hs).trans ?_)
      cases hx : Nat.blt X.nat (pS c)
      · exact OT.run_f hx
      · refine (OT.run_t hx).trans ?_
        cases hy : Nat.blt Y.nat (pS c)
        · exact OT.run_f hy
        · refine (OT.run_t hy).trans ((OT.run_t hs).trans ((gd_run ?_).trans rfl))
          simp only [List.all_cons, List.all_nil, Bool.and_true]
          exact hs
    · exact OT.run_t rfl
def con_summ : Summ := (con_S.summ con_pre con_F)
theorem con_known : SummOk Try.prog 21 con_summ := con_ok
theorem con_smono : MonoOk con_summ := fn_mono
def E_con : Env := envCons 21 con_summ E_ccube
theorem E_con_ok : EnvOk Try.prog E_con := envOk_cons con_known E_ccube_ok
theorem E_con_mono : EnvMono E_con := envMono_cons con_smono E_ccube_mono
theorem E_con_any : AnyOk Try.prog te E_con := any_ok follows te_ok E_con_ok E_con_mono
def cneg_S : FnSpec := ⟨[.val false .int, .val true (.prod .elem (.prod .elem .bool))], [], true, 0, false⟩
abbrev cnegX : Type := ((Int) × ((Elem × (Elem × Bool))) × Unit) × (Unit)
def cneg_o0 : OutSh := ⟨[.val true (.prod .elem (.prod .elem .bool))], [], false⟩
def cneg_sel : SV → Option OutSh := fun _ => some cneg_o0
def cneg_T (a0 : Int) (a1 : (Elem × (Elem × Bool))) : OT cneg_S.Y :=
  let z0 : Elem := { w0 := 0, w1 := 0, w2 := 0, w3 := 0 }
  let z1 : Elem × Elem × Bool := (z0, z0, true)
  (.br (!onB a0 a1)
  (.ok ⟨cneg_o0, ((z1, ()), ())⟩)
  (.br (a1.snd.snd)
    (.ok ⟨cneg_o0, ((z1, ()), ())⟩)
    (.br (sortOk a0)
      (.ok ⟨cneg_o0, (((a1.fst, negP (pS a0) a1.snd.fst, a1.snd.snd), ()), ())⟩)
      (.ok ⟨cneg_o0, (((a1.fst, z0, a1.snd.snd), ()), ())⟩))))
theorem cneg_q (x : cnegX) (Q : cneg_S.Y → Prop) : wpf te E_con lamNil 1000 Try.f23 (cneg_S.inp.inj x).tm (cneg_S.inp.inj x).hp (fnK cneg_S cneg_sel Q) (fun _ _ => False) = (cneg_T (x.1.1) (x.1.2.1)).wpR Q := by kernel_rfl
theorem cneg_main (pre : cnegX → Bool) (F : cnegX → OT cneg_S.Y) (hF : ∀ (x : cnegX) oy, pre x = true → (F x).run = some oy → (cneg_T (x.1.1) (x.1.2.1)).run = some oy) : SummOk Try.prog 23 (cneg_S.summ pre F) :=
  fn_tree te_ok E_con_ok E_con_any (f := 23) (fn := Try.f23) (c := codeOf Try.f23) (by kernel_rfl) (by kernel_rfl) (by kernel_rfl) (S := cneg_S) (k := 0) (by kernel_rfl) (fun R hR => lamOk_nil) (n := 1000) (sel := cneg_sel) (fun v o h => by cases h; rfl) (pre := pre) (F := F) (T := fun x => cneg_T (x.1.1) (x.1.2.1)) (fun x Q => cneg_q x Q) hF
def negPt (c : Int) (P : Pt) : Pt := cond (onB c P) (cond P.2.2 inftyP (P.1, negP (pS c) P.2.1, P.2.2)) inftyP
theorem onB_sort {c : Int} {P : Pt} (h : onB c P = true) : sortOk c = true := by
  unfold onB at h
  cases hs : sortOk c
  · rw [hs] at h; cases h
  · rfl
def cneg_pre (_ : cnegX) : Bool := true
def cneg_F (x : cnegX) : OT cneg_S.Y := .ok ⟨cneg_o0, ((negPt x.1.1 x.1.2.1, ()), ())⟩
theorem cneg_ok : SummOk Try.prog 23 (cneg_S.summ cneg_pre cneg_F) := cneg_main _ _ fun x oy _ ho => by
  rw [← ho]
  clear ho
  obtain ⟨⟨c, ⟨X, Y, i⟩, ⟨⟩⟩, ⟨⟩⟩ := x
  show _ = (OT.ok ⟨cneg_o0, ((negPt c (X, Y, i), ()), ())⟩ : OT cneg_S.Y).run
  unfold negPt
  cases ho : onB c (X, Y, i)
  · exact OT.run_t (b := !onB c (X, Y, i)) (by rw [ho]; rfl)
  · refine (OT.run_f (b := !onB c (X, Y, i)) (by rw [ho]; rfl)).trans ?_
    cases i
    · exact (OT.run_f rfl).trans (OT.run_t (onB_sort ho))
    · exact OT.run_t rfl
def cneg_summ : Summ := (cneg_S.summ cneg_pre cneg_F)
theorem cneg_known : SummOk Try.prog 23 cneg_summ := cneg_ok
theorem cneg_smono : MonoOk cneg_summ := fn_mono
def E_cneg : Env := envCons 23 cneg_summ E_con
theorem E_cneg_ok : EnvOk Try.prog E_cneg := envOk_cons cneg_known E_con_ok
theorem E_cneg_mono : EnvMono E_cneg := envMono_cons cneg_smono E_con_mono
theorem E_cneg_any : AnyOk Try.prog te E_cneg := any_ok follows te_ok E_cneg_ok E_cneg_mono
def cinfin_S : FnSpec := ⟨[.val true (.prod .elem (.prod .elem .elem))], [], true, 0, false⟩
abbrev cinfinX : Type := (((Elem × (Elem × Elem))) × Unit) × (Unit)
def cinfin_o0 : OutSh := ⟨[.val false .bool], [], false⟩
def cinfin_sel : SV → Option OutSh := fun _ => some cinfin_o0
def cinfin_T (a0 : (Elem × (Elem × Elem))) : OT cinfin_S.Y :=
  (.ok ⟨cinfin_o0, ((a0.snd.snd.w0 == (0 : UInt64) && (a0.snd.snd.w1 == (0 : UInt64) && (a0.snd.snd.w2 == (0 : UInt64) && (a0.snd.snd.w3 == (0 : UInt64) && true))), ()), ())⟩)
theorem cinfin_q (x : cinfinX) (Q : cinfin_S.Y → Prop) : wpf te E_cneg lamNil 1000 Try.f80 (cinfin_S.inp.inj x).tm (cinfin_S.inp.inj x).hp (fnK cinfin_S cinfin_sel Q) (fun _ _ => False) = (cinfin_T (x.1.1)).wpR Q := by kernel_rfl
theorem cinfin_main (pre : cinfinX → Bool) (F : cinfinX → OT cinfin_S.Y) (hF : ∀ (x : cinfinX) oy, pre x = true → (F x).run = some oy → (cinfin_T (x.1.1)).run = some oy) : SummOk Try.prog 80 (cinfin_S.summ pre F) :=
  fn_tree te_ok E_cneg_ok E_cneg_any (f := 80) (fn := Try.f80) (c := codeOf Try.f80) (by kernel_rfl) (by kernel_rfl) (by kernel_rfl) (S := cinfin_S) (k := 0) (by kernel_rfl) (fun R hR => lamOk_nil) (n := 1000) (sel := cinfin_sel) (fun v o h => by cases h; rfl) (pre := pre) (F := F) (T := fun x => cinfin_T (x.1.1)) (fun x Q => cinfin_q x Q) hF
abbrev Wide : Type := Elem × (Elem × Elem)
def cinfin_pre (_ : cinfinX) : Bool := true
def cinfin_F (x : cinfinX) : OT cinfin_S.Y := .ok ⟨cinfin_o0, ((zeroE x.1.1.2.2, ()), ())⟩
theorem cinfin_ok : SummOk Try.prog 80 (cinfin_S.summ cinfin_pre cinfin_F) := cinfin_main _ _ fun x oy hp ho => by
  rw [← ho]
  rfl
def cinfin_summ : Summ := (cinfin_S.summ cinfin_pre cinfin_F)
theorem cinfin_known : SummOk Try.prog 80 cinfin_summ := cinfin_ok
theorem cinfin_smono : MonoOk cinfin_summ := fn_mono
def E_cinfin : Env := envCons 80 cinfin_summ E_cneg
theorem E_cinfin_ok : EnvOk Try.prog E_cinfin := envOk_cons cinfin_known E_cneg_ok
theorem E_cinfin_mono : EnvMono E_cinfin := envMono_cons cinfin_smono E_cneg_mono
theorem E_cinfin_any : AnyOk Try.prog te E_cinfin := any_ok follows te_ok E_cinfin_ok E_cinfin_mono
def cwiden_S : FnSpec := ⟨[.val true (.prod .elem (.prod .elem .bool))], [], true, 0, false⟩
abbrev cwidenX : Type := (((Elem × (Elem × Bool))) × Unit) × (Unit)
def cwiden_o0 : OutSh := ⟨[.val true (.prod .elem (.prod .elem .elem))], [], false⟩
def cwiden_sel : SV → Option OutSh := fun _ => some cwiden_o0
def cwiden_T (a0 : (Elem × (Elem × Bool))) : OT cwiden_S.Y :=
  let z0 : Elem := { w0 := 0, w1 := 0, w2 := 0, w3 := 0 }
  (.br (a0.snd.snd)
  (.ok ⟨cwiden_o0, (((z0, z0, z0), ()), ())⟩)
  (.ok ⟨cwiden_o0, (((a0.fst, a0.snd.fst, { w0 := 1, w1 := 0, w2 := 0, w3 := 0 }), ()), ())⟩))
theorem cwiden_q (x : cwidenX) (Q : cwiden_S.Y → Prop) : wpf te E_cinfin lamNil 1000 Try.f51 (cwiden_S.inp.inj x).tm (cwiden_S.inp.inj x).hp (fnK cwiden_S cwiden_sel Q) (fun _ _ => False) = (cwiden_T (x.1.1)).wpR Q := by kernel_rfl
theorem cwiden_main (pre : cwidenX → Bool) (F : cwidenX → OT cwiden_S.Y) (hF : ∀ (x : cwidenX) oy, pre x = true → (F x).run = some oy → (cwiden_T (x.1.1)).run = some oy) : SummOk Try.prog 51 (cwiden_S.summ pre F) :=
  fn_tree te_ok E_cinfin_ok E_cinfin_any (f := 51) (fn := Try.f51) (c := codeOf Try.f51) (by kernel_rfl) (by kernel_rfl) (by kernel_rfl) (S := cwiden_S) (k := 0) (by kernel_rfl) (fun R hR => lamOk_nil) (n := 1000) (sel := cwiden_sel) (fun v o h => by cases h; rfl) (pre := pre) (F := F) (T := fun x => cwiden_T (x.1.1)) (fun x Q => cwiden_q x Q) hF
def widenP (P : Pt) : Wide := cond P.2.2 (⟨0, 0, 0, 0⟩, ⟨0, 0, 0, 0⟩, ⟨0, 0, 0, 0⟩) (P.1, P.2.1, ⟨1, 0, 0, 0⟩)
def cwiden_pre (_ : cwidenX) : Bool := true
def cwiden_F (x : cwidenX) : OT cwiden_S.Y := .ok ⟨cwiden_o0, ((widenP x.1.1, ()), ())⟩
theorem cwiden_ok : SummOk Try.prog 51 (cwiden_S.summ cwiden_pre cwiden_F) := cwiden_main _ _ fun x oy hp ho => by
  rw [← ho]
  clear ho
  obtain ⟨⟨⟨X, Y, i⟩, ⟨⟩⟩, ⟨⟩⟩ := x
  cases i <;> rfl
def cwiden_summ : Summ := (cwiden_S.summ cwiden_pre cwiden_F)
theorem cwiden_known : SummOk Try.prog 51 cwiden_summ := cwiden_ok
theorem cwiden_smono : MonoOk cwiden_summ := fn_mono
def E_cwiden : Env := envCons 51 cwiden_summ E_cinfin
theorem E_cwiden_ok : EnvOk Try.prog E_cwiden := envOk_cons cwiden_known E_cinfin_ok
theorem E_cwiden_mono : EnvMono E_cwiden := envMono_cons cwiden_smono E_cinfin_mono
theorem E_cwiden_any : AnyOk Try.prog te E_cwiden := any_ok follows te_ok E_cwiden_ok E_cwiden_mono
def cmul_S : FnSpec := ⟨[.val false .int, .val true .elem, .val true .elem], [], true, 0, false⟩
abbrev cmulX : Type := ((Int) × (Elem) × (Elem) × Unit) × (Unit)
def cmul_o0 : OutSh := ⟨[.val true .elem], [], false⟩
def cmul_sel : SV → Option OutSh := fun _ => some cmul_o0
def cmul_T (a0 : Int) (a1 : Elem) (a2 : Elem) : OT cmul_S.Y :=
  (.br (sortOk a0)
  (.ok ⟨cmul_o0, ((mulP (pS a0) a1 a2, ()), ())⟩)
  (.ok ⟨cmul_o0, (({ w0 := 0, w1 := 0, w2 := 0, w3 := 0 }, ()), ())⟩))
theorem cmul_q (x : cmulX) (Q : cmul_S.Y → Prop) : wpf te E_cwiden lamNil 1000 Try.f81 (cmul_S.inp.inj x).tm (cmul_S.inp.inj x).hp (fnK cmul_S cmul_sel Q) (fun _ _ => False) = (cmul_T (x.1.1) (x.1.2.1) (x.1.2.2.1)).wpR Q := by kernel_rfl
theorem cmul_main (pre : cmulX → Bool) (F : cmulX → OT cmul_S.Y) (hF : ∀ (x : cmulX) oy, pre x = true → (F x).run = some oy → (cmul_T (x.1.1) (x.1.2.1) (x.1.2.2.1)).run = some oy) : SummOk Try.prog 81 (cmul_S.summ pre F) :=
  fn_tree te_ok E_cwiden_ok E_cwiden_any (f := 81) (fn := Try.f81) (c := codeOf Try.f81) (by kernel_rfl) (by kernel_rfl) (by kernel_rfl) (S := cmul_S) (k := 0) (by kernel_rfl) (fun R hR => lamOk_nil) (n := 1000) (sel := cmul_sel) (fun v o h => by cases h; rfl) (pre := pre) (F := F) (T := fun x => cmul_T (x.1.1) (x.1.2.1) (x.1.2.2.1)) (fun x Q => cmul_q x Q) hF
def cmul_pre (x : cmulX) : Bool := sortOk x.1.1
def cmul_F (x : cmulX) : OT cmul_S.Y := .ok ⟨cmul_o0, ((mulP (pS x.1.1) x.1.2.1 x.1.2.2.1, ()), ())⟩
theorem cmul_ok : SummOk Try.prog 81 (cmul_S.summ cmul_pre cmul_F) := cmul_main _ _ fun x oy hp ho => by
  rw [← ho]
  clear ho
  obtain ⟨⟨s, a, b, ⟨⟩⟩, ⟨⟩⟩ := x
  have hs : sortOk s = true := hp
  exact (OT.run_t hs).trans rfl
def cmul_summ : Summ := (cmul_S.summ cmul_pre cmul_F)
theorem cmul_known : SummOk Try.prog 81 cmul_summ := cmul_ok
theorem cmul_smono : MonoOk cmul_summ := fn_mono
def E_cmul : Env := envCons 81 cmul_summ E_cwiden
theorem E_cmul_ok : EnvOk Try.prog E_cmul := envOk_cons cmul_known E_cwiden_ok
theorem E_cmul_mono : EnvMono E_cmul := envMono_cons cmul_smono E_cwiden_mono
theorem E_cmul_any : AnyOk Try.prog te E_cmul := any_ok follows te_ok E_cmul_ok E_cmul_mono
def csub_S : FnSpec := ⟨[.val false .int, .val true .elem, .val true .elem], [], true, 0, false⟩
abbrev csubX : Type := ((Int) × (Elem) × (Elem) × Unit) × (Unit)
def csub_o0 : OutSh := ⟨[.val true .elem], [], false⟩
def csub_sel : SV → Option OutSh := fun _ => some csub_o0
def csub_T (a0 : Int) (a1 : Elem) (a2 : Elem) : OT csub_S.Y :=
  (.br (sortOk a0)
  (.ok ⟨csub_o0, ((subP (pS a0) a1 a2, ()), ())⟩)
  (.ok ⟨csub_o0, (({ w0 := 0, w1 := 0, w2 := 0, w3 := 0 }, ()), ())⟩))
theorem csub_q (x : csubX) (Q : csub_S.Y → Prop) : wpf te E_cmul lamNil 1000 Try.f83 (csub_S.inp.inj x).tm (csub_S.inp.inj x).hp (fnK csub_S csub_sel Q) (fun _ _ => False) = (csub_T (x.1.1) (x.1.2.1) (x.1.2.2.1)).wpR Q := by kernel_rfl
theorem csub_main (pre : csubX → Bool) (F : csubX → OT csub_S.Y) (hF : ∀ (x : csubX) oy, pre x = true → (F x).run = some oy → (csub_T (x.1.1) (x.1.2.1) (x.1.2.2.1)).run = some oy) : SummOk Try.prog 83 (csub_S.summ pre F) :=
  fn_tree te_ok E_cmul_ok E_cmul_any (f := 83) (fn := Try.f83) (c := codeOf Try.f83) (by kernel_rfl) (by kernel_rfl) (by kernel_rfl) (S := csub_S) (k := 0) (by kernel_rfl) (fun R hR => lamOk_nil) (n := 1000) (sel := csub_sel) (fun v o h => by cases h; rfl) (pre := pre) (F := F) (T := fun x => csub_T (x.1.1) (x.1.2.1) (x.1.2.2.1)) (fun x Q => csub_q x Q) hF
def csub_pre (x : csubX) : Bool := sortOk x.1.1
def csub_F (x : csubX) : OT csub_S.Y := .ok ⟨csub_o0, ((subP (pS x.1.1) x.1.2.1 x.1.2.2.1, ()), ())⟩
theorem csub_ok : SummOk Try.prog 83 (csub_S.summ csub_pre csub_F) := csub_main _ _ fun x oy hp ho => by
  rw [← ho]
  clear ho
  obtain ⟨⟨s, a, b, ⟨⟩⟩, ⟨⟩⟩ := x
  have hs : sortOk s = true := hp
  exact (OT.run_t hs).trans rfl
def csub_summ : Summ := (csub_S.summ csub_pre csub_F)
theorem csub_known : SummOk Try.prog 83 csub_summ := csub_ok
theorem csub_smono : MonoOk csub_summ := fn_mono
def E_csub : Env := envCons 83 csub_summ E_cmul
theorem E_csub_ok : EnvOk Try.prog E_csub := envOk_cons csub_known E_cmul_ok
theorem E_csub_mono : EnvMono E_csub := envMono_cons csub_smono E_cmul_mono
theorem E_csub_any : AnyOk Try.prog te E_csub := any_ok follows te_ok E_csub_ok E_csub_mono
def ctimes_S : FnSpec := ⟨[.val false .int, .val true .elem, .val false .u64], [], true, 0, false⟩
abbrev ctimesX : Type := ((Int) × (Elem) × (UInt64) × Unit) × (Unit)
def ctimes_o0 : OutSh := ⟨[.val true .elem], [], false⟩
def ctimes_sel : SV → Option OutSh := fun _ => some ctimes_o0
def ctimes_T (a0 : Int) (a1 : Elem) (a2 : UInt64) : OT ctimes_S.Y :=
  let z0 : Elem := { w0 := a2, w1 := 0, w2 := 0, w3 := 0 }
  (gd [cmul_pre ((a0, a1, z0, ()), ())] (.ok ⟨ctimes_o0, ((mulP (pS a0) a1 z0, ()), ())⟩))
theorem ctimes_q (x : ctimesX) (Q : ctimes_S.Y → Prop) : wpf te E_csub lamNil 1000 Try.f82 (ctimes_S.inp.inj x).tm (ctimes_S.inp.inj x).hp (fnK ctimes_S ctimes_sel Q) (fun _ _ => False) = (ctimes_T (x.1.1) (x.1.2.1) (x.1.2.2.1)).wpR Q := by kernel_rfl
theorem ctimes_main (pre : ctimesX → Bool) (F : ctimesX → OT ctimes_S.Y) (hF : ∀ (x : ctimesX) oy, pre x = true → (F x).run = some oy → (ctimes_T (x.1.1) (x.1.2.1) (x.1.2.2.1)).run = some oy) : SummOk Try.prog 82 (ctimes_S.summ pre F) :=
  fn_tree te_ok E_csub_ok E_csub_any (f := 82) (fn := Try.f82) (c := codeOf Try.f82) (by kernel_rfl) (by kernel_rfl) (by kernel_rfl) (S := ctimes_S) (k := 0) (by kernel_rfl) (fun R hR => lamOk_nil) (n := 1000) (sel := ctimes_sel) (fun v o h => by cases h; rfl) (pre := pre) (F := F) (T := fun x => ctimes_T (x.1.1) (x.1.2.1) (x.1.2.2.1)) (fun x Q => ctimes_q x Q) hF
def timesP (p : Nat) (a : Elem) (n : UInt64) : Elem := mulP p a ⟨n, 0, 0, 0⟩
def ctimes_pre (x : ctimesX) : Bool := sortOk x.1.1
def ctimes_F (x : ctimesX) : OT ctimes_S.Y := .ok ⟨ctimes_o0, ((timesP (pS x.1.1) x.1.2.1 x.1.2.2.1, ()), ())⟩
theorem ctimes_ok : SummOk Try.prog 82 (ctimes_S.summ ctimes_pre ctimes_F) := ctimes_main _ _ fun x oy hp ho => by
  rw [← ho]
  clear ho
  obtain ⟨⟨s, a, b, ⟨⟩⟩, ⟨⟩⟩ := x
  have hs : sortOk s = true := hp
  refine (gd_run ?_).trans rfl
  simp only [List.all_cons, List.all_nil, Bool.and_true]
  exact hs
def ctimes_summ : Summ := (ctimes_S.summ ctimes_pre ctimes_F)
theorem ctimes_known : SummOk Try.prog 82 ctimes_summ := ctimes_ok
theorem ctimes_smono : MonoOk ctimes_summ := fn_mono
def E_ctimes : Env := envCons 82 ctimes_summ E_csub
theorem E_ctimes_ok : EnvOk Try.prog E_ctimes := envOk_cons ctimes_known E_csub_ok
theorem E_ctimes_mono : EnvMono E_ctimes := envMono_cons ctimes_smono E_csub_mono
theorem E_ctimes_any : AnyOk Try.prog te E_ctimes := any_ok follows te_ok E_ctimes_ok E_ctimes_mono
def cnarrow_S : FnSpec := ⟨[.val false .int, .val true (.prod .elem (.prod .elem .elem))], [], true, 0, false⟩
abbrev cnarrowX : Type := ((Int) × ((Elem × (Elem × Elem))) × Unit) × (Unit)
def cnarrow_o0 : OutSh := ⟨[.val true (.prod .elem (.prod .elem .bool))], [], false⟩
def cnarrow_sel : SV → Option OutSh := fun _ => some cnarrow_o0
def cnarrow_T (a0 : Int) (a1 : (Elem × (Elem × Elem))) : OT cnarrow_S.Y :=
  let z0 : Elem := { w0 := 0, w1 := 0, w2 := 0, w3 := 0 }
  let z1 : Nat := pS a0
  let z2 : Elem × PUnit := (z0, ())
  let z3 : Bool := cmul_pre ((a0, z0, z2), ())
  let z4 : Elem := mulP z1 z0 z0
  let z5 : Bool := cmul_pre ((a0, a1.fst, z4, ()), ())
  let z6 : Bool := cmul_pre ((a0, z4, z2), ())
  let z7 : Elem := mulP z1 z4 z0
  let z8 : Bool := cmul_pre ((a0, a1.snd.fst, z7, ()), ())
  let z9 : Elem × Elem × Bool := (mulP z1 a1.fst z4, mulP z1 a1.snd.fst z7, false)
  let z10 : Elem := invP z1 a1.snd.snd
  let z11 : Elem × PUnit := (z10, ())
  let z12 : Elem := mulP z1 z10 z10
  let z13 : Elem := mulP z1 z12 z10
  (.br (zeroE a1.snd.snd)
  (.ok ⟨cnarrow_o0, (((z0, z0, true), ()), ())⟩)
  (.br (sortOk a0)
    (.br (Nat.beq (Elem.nat a1.snd.snd % z1) 0)
      (gd [z3, z5, z6, z8] (.ok ⟨cnarrow_o0, ((z9, ()), ())⟩))
      (gd [cmul_pre ((a0, z10, z11), ()), cmul_pre ((a0, a1.fst, z12, ()), ()), cmul_pre ((a0, z12, z11), ()), cmul_pre ((a0, a1.snd.fst, z13, ()), ())] (.ok ⟨cnarrow_o0, (((mulP z1 a1.fst z12, mulP z1 a1.snd.fst z13, false), ()), ())⟩)))
    (gd [z3, z5, z6, z8] (.ok ⟨cnarrow_o0, ((z9, ()), ())⟩))))
theorem cnarrow_q (x : cnarrowX) (Q : cnarrow_S.Y → Prop) : wpf te E_ctimes lamNil 1000 Try.f52 (cnarrow_S.inp.inj x).tm (cnarrow_S.inp.inj x).hp (fnK cnarrow_S cnarrow_sel Q) (fun _ _ => False) = (cnarrow_T (x.1.1) (x.1.2.1)).wpR Q := by kernel_rfl
theorem cnarrow_main (pre : cnarrowX → Bool) (F : cnarrowX → OT cnarrow_S.Y) (hF : ∀ (x : cnarrowX) oy, pre x = true → (F x).run = some oy → (cnarrow_T (x.1.1) (x.1.2.1)).run = some oy) : SummOk Try.prog 52 (cnarrow_S.summ pre F) :=
  fn_tree te_ok E_ctimes_ok E_ctimes_any (f := 52) (fn := Try.f52) (c := codeOf Try.f52) (by kernel_rfl) (by kernel_rfl) (by kernel_rfl) (S := cnarrow_S) (k := 0) (by kernel_rfl) (fun R hR => lamOk_nil) (n := 1000) (sel := cnarrow_sel) (fun v o h => by cases h; rfl) (pre := pre) (F := F) (T := fun x => cnarrow_T (x.1.1) (x.1.2.1)) (fun x Q => cnarrow_q x Q) hF
def inv0 (p : Nat) (a : Elem) : Elem := cond (Nat.beq (a.nat % p) 0) ⟨0, 0, 0, 0⟩ (invP p a)
def narrowI (p : Nat) (x y i : Elem) : Pt := (mulP p x (mulP p i i), mulP p y (mulP p (mulP p i i) i), false)
def narrowP (p : Nat) (w : Wide) : Pt := cond (zeroE w.2.2) inftyP (narrowI p w.1 w.2.1 (inv0 p w.2.2))
def cnarrow_pre (x : cnarrowX) : Bool := sortOk x.1.1
def cnarrow_F (x : cnarrowX) : OT cnarrow_S.Y := .ok ⟨cnarrow_o0, ((narrowP (pS x.1.1) x.1.2.1, ()), ())⟩
theorem cnarrow_ok : SummOk Try.prog 52 (cnarrow_S.summ cnarrow_pre cnarrow_F) := cnarrow_main _ _ fun x oy hp ho => by
  rw [← ho]
  clear ho
  obtain ⟨⟨c, ⟨X, Y, Z⟩, ⟨⟩⟩, ⟨⟩⟩ := x
  have hs : sortOk c = true := hp
  show _ = (OT.ok ⟨cnarrow_o0, ((narrowP (pS c) (X, Y, Z), ()), ())⟩ : OT cnarrow_S.Y).run
  unfold narrowP
  dsimp only
  cases hz : zeroE Z
  · refine (OT.run_f hz).trans ((OT.run_t hs).trans ?_)
    unfold inv0
    cases hb : Nat.beq (Z.nat % pS c) 0
    · refine (OT.run_f rfl).trans ((gd_run ?_).trans rfl)
      simp only [List.all_cons, List.all_nil, Bool.and_true, Bool.and_eq_true]
      exact ⟨hs, hs, hs, hs⟩
    · refine (OT.run_t rfl).trans ((gd_run ?_).trans rfl)
      simp only [List.all_cons, List.all_nil, Bool.and_true, Bool.and_eq_true]
      exact ⟨hs, hs, hs, hs⟩
  · exact OT.run_t hz
def cnarrow_summ : Summ := (cnarrow_S.summ cnarrow_pre cnarrow_F)
theorem cnarrow_known : SummOk Try.prog 52 cnarrow_summ := cnarrow_ok
theorem cnarrow_smono : MonoOk cnarrow_summ := fn_mono
def E_cnarrow : Env := envCons 52 cnarrow_summ E_ctimes
theorem E_cnarrow_ok : EnvOk Try.prog E_cnarrow := envOk_cons cnarrow_known E_ctimes_ok
theorem E_cnarrow_mono : EnvMono E_cnarrow := envMono_cons cnarrow_smono E_ctimes_mono
theorem E_cnarrow_any : AnyOk Try.prog te E_cnarrow := any_ok follows te_ok E_cnarrow_ok E_cnarrow_mono
def cdouble_S : FnSpec := ⟨[.val false .int, .val true (.prod .elem (.prod .elem .elem))], [], true, 0, false⟩
abbrev cdoubleX : Type := ((Int) × ((Elem × (Elem × Elem))) × Unit) × (Unit)
def cdouble_o0 : OutSh := ⟨[.val true (.prod .elem (.prod .elem .elem))], [], false⟩
def cdouble_sel : SV → Option OutSh := fun _ => some cdouble_o0
def cdouble_T (a0 : Int) (a1 : (Elem × (Elem × Elem))) : OT cdouble_S.Y :=
  let z0 : Nat := pS a0
  let z1 : Elem := mulP z0 a1.snd.fst a1.snd.fst
  let z2 : Elem × PUnit := (z1, ())
  let z3 : Elem := mulP z0 a1.fst z1
  let z4 : Elem := mulP z0 a1.fst a1.fst
  let z5 : Elem := timesP z0 z4 (3 : UInt64)
  let z6 : Elem := timesP z0 z3 (4 : UInt64)
  let z7 : UInt64 × PUnit := ((2 : UInt64), ())
  let z8 : Elem := mulP z0 z5 z5
  let z9 : Elem := timesP z0 z6 (2 : UInt64)
  let z10 : Elem := subP z0 z8 z9
  let z11 : Elem := subP z0 z6 z10
  let z12 : Elem := mulP z0 z1 z1
  let z13 : Elem := mulP z0 z5 z11
  let z14 : Elem := timesP z0 z12 (8 : UInt64)
  let z15 : Elem := mulP z0 a1.snd.fst a1.snd.snd
  (.br (zeroE a1.snd.snd)
  (.ok ⟨cdouble_o0, ((a1, ()), ())⟩)
  (gd [cmul_pre ((a0, a1.snd.fst, a1.snd.fst, ()), ()), cmul_pre ((a0, a1.fst, z2), ()), ctimes_pre ((a0, z3, (4 : UInt64), ()), ()), cmul_pre ((a0, a1.fst, a1.fst, ()), ()), ctimes_pre ((a0, z4, (3 : UInt64), ()), ()), cmul_pre ((a0, z5, z5, ()), ()), ctimes_pre ((a0, z6, z7), ()), csub_pre ((a0, z8, z9, ()), ()), csub_pre ((a0, z6, z10, ()), ()), cmul_pre ((a0, z5, z11, ()), ()), cmul_pre ((a0, z1, z2), ()), ctimes_pre ((a0, z12, (8 : UInt64), ()), ()), csub_pre ((a0, z13, z14, ()), ()), cmul_pre ((a0, a1.snd.fst, a1.snd.snd, ()), ()), ctimes_pre ((a0, z15, z7), ())] (.ok ⟨cdouble_o0, (((z10, subP z0 z13 z14, timesP z0 z15 (2 : UInt64)), ()), ())⟩)))
theorem cdouble_q (x : cdoubleX) (Q : cdouble_S.Y → Prop) : wpf te E_cnarrow lamNil 1000 Try.f48 (cdouble_S.inp.inj x).tm (cdouble_S.inp.inj x).hp (fnK cdouble_S cdouble_sel Q) (fun _ _ => False) = (cdouble_T (x.1.1) (x.1.2.1)).wpR Q := by kernel_rfl
theorem cdouble_main (pre : cdoubleX → Bool) (F : cdoubleX → OT cdouble_S.Y) (hF : ∀ (x : cdoubleX) oy, pre x = true → (F x).run = some oy → (cdouble_T (x.1.1) (x.1.2.1)).run = some oy) : SummOk Try.prog 48 (cdouble_S.summ pre F) :=
  fn_tree te_ok E_cnarrow_ok E_cnarrow_any (f := 48) (fn := Try.f48) (c := codeOf Try.f48) (by kernel_rfl) (by kernel_rfl) (by kernel_rfl) (S := cdouble_S) (k := 0) (by kernel_rfl) (fun R hR => lamOk_nil) (n := 1000) (sel := cdouble_sel) (fun v o h => by cases h; rfl) (pre := pre) (F := F) (T := fun x => cdouble_T (x.1.1) (x.1.2.1)) (fun x Q => cdouble_q x Q) hF
def dblN (p : Nat) (x y z : Elem) : Wide :=
  let yy := mulP p y y
  let s := timesP p (mulP p x yy) 4
  let m := timesP p (mulP p x x) 3
  let x' := subP p (mulP p m m) (timesP p s 2)
  (x', subP p (mulP p m (subP p s x')) (timesP p (mulP p yy yy) 8), timesP p (mulP p y z) 2)
def dblW (p : Nat) (w : Wide) : Wide := cond (zeroE w.2.2) w (dblN p w.1 w.2.1 w.2.2)
def cdouble_pre (x : cdoubleX) : Bool := sortOk x.1.1
def cdouble_F (x : cdoubleX) : OT cdouble_S.Y := .ok ⟨cdouble_o0, ((dblW (pS x.1.1) x.1.2.1, ()), ())⟩
theorem cdouble_ok : SummOk Try.prog 48 (cdouble_S.summ cdouble_pre cdouble_F) := cdouble_main _ _ fun x oy hp ho => by
  rw [← ho]
  clear ho
  obtain ⟨⟨c, ⟨X, Y, Z⟩, ⟨⟩⟩, ⟨⟩⟩ := x
  have hs : sortOk c = true := hp
  show _ = (OT.ok ⟨cdouble_o0, ((dblW (pS c) (X, Y, Z), ()), ())⟩ : OT cdouble_S.Y).run
  unfold dblW
  dsimp only
  cases hz : zeroE Z
  · refine (OT.run_f hz).trans ((gd_run ?_).trans rfl)
    simp only [List.all_cons, List.all_nil, Bool.and_true, Bool.and_eq_true]
    exact ⟨hs, hs, hs, hs, hs, hs, hs, hs, hs, hs, hs, hs, hs, hs, hs⟩
  · exact OT.run_t hz
def cdouble_summ : Summ := (cdouble_S.summ cdouble_pre cdouble_F)
theorem cdouble_known : SummOk Try.prog 48 cdouble_summ := cdouble_ok
theorem cdouble_smono : MonoOk cdouble_summ := fn_mono
def E_cdouble : Env := envCons 48 cdouble_summ E_cnarrow
theorem E_cdouble_ok : EnvOk Try.prog E_cdouble := envOk_cons cdouble_known E_cnarrow_ok
theorem E_cdouble_mono : EnvMono E_cdouble := envMono_cons cdouble_smono E_cnarrow_mono
theorem E_cdouble_any : AnyOk Try.prog te E_cdouble := any_ok follows te_ok E_cdouble_ok E_cdouble_mono
def cadd0_S : FnSpec := ⟨[.val false .int, .val true (.prod .elem (.prod .elem .elem)), .val true (.prod .elem (.prod .elem .elem))], [], true, 0, false⟩
abbrev cadd0X : Type := ((Int) × ((Elem × (Elem × Elem))) × ((Elem × (Elem × Elem))) × Unit) × (Unit)
def cadd0_o0 : OutSh := ⟨[.val true (.prod .elem (.prod .elem .elem))], [], false⟩
def cadd0_sel : SV → Option OutSh := fun _ => some cadd0_o0
def cadd0_T (a0 : Int) (a1 : (Elem × (Elem × Elem))) (a2 : (Elem × (Elem × Elem))) : OT cadd0_S.Y :=
  let z0 : Elem × PUnit := (a1.snd.snd, ())
  let z1 : Elem × PUnit := (a2.snd.snd, ())
  let z2 : Nat := pS a0
  let z3 : Elem := mulP z2 a2.snd.snd a2.snd.snd
  let z4 : Elem := mulP z2 a1.snd.snd a1.snd.snd
  let z5 : Elem := mulP z2 z3 a2.snd.snd
  let z6 : Elem := mulP z2 z4 a1.snd.snd
  let z7 : Elem := mulP z2 a2.fst z4
  let z8 : Elem := mulP z2 a1.fst z3
  let z9 : Elem := mulP z2 a2.snd.fst z6
  let z10 : Elem := mulP z2 a1.snd.fst z5
  let z11 : Elem := subP z2 z7 z8
  let z12 : Elem := subP z2 z9 z10
  let z13 : Elem := { w0 := 0, w1 := 0, w2 := 0, w3 := 0 }
  let z14 : Elem × PUnit := (z11, ())
  let z15 : Elem := mulP z2 z11 z11
  let z16 : Elem := mulP z2 z12 z12
  let z17 : Elem := mulP z2 z15 z11
  let z18 : Elem × PUnit := (z17, ())
  let z19 : Elem := mulP z2 z8 z15
  let z20 : Elem := subP z2 z16 z17
  let z21 : Elem := timesP z2 z19 (2 : UInt64)
  let z22 : Elem := subP z2 z20 z21
  let z23 : Elem := subP z2 z19 z22
  let z24 : Elem := mulP z2 z12 z23
  let z25 : Elem := mulP z2 z10 z17
  let z26 : Elem := mulP z2 a1.snd.snd a2.snd.snd
  (.br (zeroE a1.snd.snd)
  (.ok ⟨cadd0_o0, ((a2, ()), ())⟩)
  (.br (zeroE a2.snd.snd)
    (.ok ⟨cadd0_o0, ((a1, ()), ())⟩)
    (gd [cmul_pre ((a0, a1.snd.snd, z0), ()), cmul_pre ((a0, a2.snd.snd, z1), ()), cmul_pre ((a0, a1.fst, z3, ()), ()), cmul_pre ((a0, a2.fst, z4, ()), ()), cmul_pre ((a0, z3, z1), ()), cmul_pre ((a0, a1.snd.fst, z5, ()), ()), cmul_pre ((a0, z4, z0), ()), cmul_pre ((a0, a2.snd.fst, z6, ()), ()), csub_pre ((a0, z7, z8, ()), ()), csub_pre ((a0, z9, z10, ()), ())] (.br (z11.w0 == (0 : UInt64) && (z11.w1 == (0 : UInt64) && (z11.w2 == (0 : UInt64) && (z11.w3 == (0 : UInt64) && true))))
      (.br (z12.w0 == (0 : UInt64) && (z12.w1 == (0 : UInt64) && (z12.w2 == (0 : UInt64) && (z12.w3 == (0 : UInt64) && true))))
        (gd [cdouble_pre ((a0, a1, ()), ())] (.ok ⟨cadd0_o0, ((dblW z2 a1, ()), ())⟩))
        (.ok ⟨cadd0_o0, (((z13, z13, z13), ()), ())⟩))
      (gd [cmul_pre ((a0, z11, z14), ()), cmul_pre ((a0, z15, z14), ()), cmul_pre ((a0, z8, z15, ()), ()), cmul_pre ((a0, z12, z12, ()), ()), csub_pre ((a0, z16, z18), ()), ctimes_pre ((a0, z19, (2 : UInt64), ()), ()), csub_pre ((a0, z20, z21, ()), ()), csub_pre ((a0, z19, z22, ()), ()), cmul_pre ((a0, z12, z23, ()), ()), cmul_pre ((a0, z10, z18), ()), csub_pre ((a0, z24, z25, ()), ()), cmul_pre ((a0, a1.snd.snd, z1), ()), cmul_pre ((a0, z11, z26, ()), ())] (.ok ⟨cadd0_o0, (((z22, subP z2 z24 z25, mulP z2 z11 z26), ()), ())⟩))))))
theorem cadd0_q (x : cadd0X) (Q : cadd0_S.Y → Prop) : wpf te E_cdouble lamNil 1000 Try.f50 (cadd0_S.inp.inj x).tm (cadd0_S.inp.inj x).hp (fnK cadd0_S cadd0_sel Q) (fun _ _ => False) = (cadd0_T (x.1.1) (x.1.2.1) (x.1.2.2.1)).wpR Q := by kernel_rfl
theorem cadd0_main (pre : cadd0X → Bool) (F : cadd0X → OT cadd0_S.Y) (hF : ∀ (x : cadd0X) oy, pre x = true → (F x).run = some oy → (cadd0_T (x.1.1) (x.1.2.1) (x.1.2.2.1)).run = some oy) : SummOk Try.prog 50 (cadd0_S.summ pre F) :=
  fn_tree te_ok E_cdouble_ok E_cdouble_any (f := 50) (fn := Try.f50) (c := codeOf Try.f50) (by kernel_rfl) (by kernel_rfl) (by kernel_rfl) (S := cadd0_S) (k := 0) (by kernel_rfl) (fun R hR => lamOk_nil) (n := 1000) (sel := cadd0_sel) (fun v o h => by cases h; rfl) (pre := pre) (F := F) (T := fun x => cadd0_T (x.1.1) (x.1.2.1) (x.1.2.2.1)) (fun x Q => cadd0_q x Q) hF
def addN (p : Nat) (u s h r Z1 Z2 : Elem) : Wide :=
  let hh := mulP p h h
  let hhh := mulP p hh h
  let c := mulP p u hh
  let x := subP p (subP p (mulP p r r) hhh) (timesP p c 2)
  (x, subP p (mulP p r (subP p c x)) (mulP p s hhh), mulP p h (mulP p Z1 Z2))
def addM (p : Nat) (w : Wide) (u s h r Z2 : Elem) : Wide := cond (zeroE h) (cond (zeroE r) (dblW p w) (⟨0, 0, 0, 0⟩, ⟨0, 0, 0, 0⟩, ⟨0, 0, 0, 0⟩)) (addN p u s h r w.2.2 Z2)
def addL (p : Nat) (w v : Wide) : Wide :=
  let pz := mulP p w.2.2 w.2.2
  let qz := mulP p v.2.2 v.2.2
  let u := mulP p w.1 qz
  let s := mulP p w.2.1 (mulP p qz v.2.2)
  addM p w u s (subP p (mulP p v.1 pz) u) (subP p (mulP p v.2.1 (mulP p pz w.2.2)) s) v.2.2
def addW (p : Nat) (w v : Wide) : Wide := cond (zeroE w.2.2) v (cond (zeroE v.2.2) w (addL p w v))
def cadd0_pre (x : cadd0X) : Bool := sortOk x.1.1
def cadd0_F (x : cadd0X) : OT cadd0_S.Y := .ok ⟨cadd0_o0, ((addW (pS x.1.1) x.1.2.1 x.1.2.2.1, ()), ())⟩
theorem cadd0_ok : SummOk Try.prog 50 (cadd0_S.summ cadd0_pre cadd0_F) := cadd0_main _ _ fun x oy hp ho => by
  rw [← ho]
  clear ho
  obtain ⟨⟨c, ⟨X, Y, Z⟩, ⟨X2, Y2, Z2⟩, ⟨⟩⟩, ⟨⟩⟩ := x
  have hs : sortOk c = true := hp
  show _ = (OT.ok ⟨cadd0_o0, ((addW (pS c) (X, Y, Z) (X2, Y2, Z2), ()), ())⟩ : OT cadd0_S.Y).run
  unfold addW
  dsimp only
  cases hz : zeroE Z
  · refine (OT.run_f hz).trans ?_
    cases hz2 : zeroE Z2
    · refine (OT.run_f rfl).trans ((gd_run ?_).trans ?_)
      · simp only [List.all_cons, List.all_nil, Bool.and_true, Bool.and_eq_true]
        exact ⟨hs, hs, hs, hs, hs, hs, hs, hs, hs, hs⟩
      · unfold addL addM
        dsimp only [cond_false]
        cases hh : zeroE (subP (pS c) (mulP (pS c) X2 (mulP (pS c) Z Z)) (mulP (pS c) X (mulP (pS c) Z2 Z2)))
        · refine (OT.run_f hh).trans ((gd_run ?_).trans rfl)
          simp only [List.all_cons, List.all_nil, Bool.and_true, Bool.and_eq_true]
          exact ⟨hs, hs, hs, hs, hs, hs, hs, hs, hs, hs, hs, hs, hs⟩
        · refine (OT.run_t hh).trans ?_
          dsimp only [cond_true]
          cases hr : zeroE (subP (pS c) (mulP (pS c) Y2 (mulP (pS c) (mulP (pS c) Z Z) Z)) (mulP (pS c) Y (mulP (pS c) (mulP (pS c) Z2 Z2) Z2)))
          · exact OT.run_f hr
          · refine (OT.run_t hr).trans ((gd_run ?_).trans rfl)
            simp only [List.all_cons, List.all_nil, Bool.and_true]
            exact hs
    · exact OT.run_t rfl
  · exact OT.run_t hz
def cadd0_summ : Summ := (cadd0_S.summ cadd0_pre cadd0_F)
theorem cadd0_known : SummOk Try.prog 50 cadd0_summ := cadd0_ok
theorem cadd0_smono : MonoOk cadd0_summ := fn_mono
def E_cadd0 : Env := envCons 50 cadd0_summ E_cdouble
theorem E_cadd0_ok : EnvOk Try.prog E_cadd0 := envOk_cons cadd0_known E_cdouble_ok
theorem E_cadd0_mono : EnvMono E_cadd0 := envMono_cons cadd0_smono E_cdouble_mono
theorem E_cadd0_any : AnyOk Try.prog te E_cadd0 := any_ok follows te_ok E_cadd0_ok E_cadd0_mono
def cadd_S : FnSpec := ⟨[.val false .int, .val true (.prod .elem (.prod .elem .bool)), .val true (.prod .elem (.prod .elem .bool))], [], true, 0, false⟩
abbrev caddX : Type := ((Int) × ((Elem × (Elem × Bool))) × ((Elem × (Elem × Bool))) × Unit) × (Unit)
def cadd_o0 : OutSh := ⟨[.val true (.prod .elem (.prod .elem .bool))], [], false⟩
def cadd_sel : SV → Option OutSh := fun _ => some cadd_o0
def cadd_T (a0 : Int) (a1 : (Elem × (Elem × Bool))) (a2 : (Elem × (Elem × Bool))) : OT cadd_S.Y :=
  let z0 : Elem := { w0 := 0, w1 := 0, w2 := 0, w3 := 0 }
  let z1 : Elem × Elem × Bool := (z0, z0, true)
  let z2 : Elem × Elem × Elem := widenP a1
  let z3 : Elem × Elem × Elem := widenP a2
  let z4 : Nat := pS a0
  let z5 : Elem × Elem × Elem := addW z4 z2 z3
  (.br (!onB a0 a1)
  (.ok ⟨cadd_o0, ((z1, ()), ())⟩)
  (.br (!onB a0 a2)
    (.ok ⟨cadd_o0, ((z1, ()), ())⟩)
    (gd [cadd0_pre ((a0, z2, z3, ()), ()), cnarrow_pre ((a0, z5, ()), ())] (.ok ⟨cadd_o0, ((narrowP z4 z5, ()), ())⟩))))
theorem cadd_q (x : caddX) (Q : cadd_S.Y → Prop) : wpf te E_cadd0 lamNil 1000 Try.f25 (cadd_S.inp.inj x).tm (cadd_S.inp.inj x).hp (fnK cadd_S cadd_sel Q) (fun _ _ => False) = (cadd_T (x.1.1) (x.1.2.1) (x.1.2.2.1)).wpR Q := by kernel_rfl
theorem cadd_main (pre : caddX → Bool) (F : caddX → OT cadd_S.Y) (hF : ∀ (x : caddX) oy, pre x = true → (F x).run = some oy → (cadd_T (x.1.1) (x.1.2.1) (x.1.2.2.1)).run = some oy) : SummOk Try.prog 25 (cadd_S.summ pre F) :=
  fn_tree te_ok E_cadd0_ok E_cadd0_any (f := 25) (fn := Try.f25) (c := codeOf Try.f25) (by kernel_rfl) (by kernel_rfl) (by kernel_rfl) (S := cadd_S) (k := 0) (by kernel_rfl) (fun R hR => lamOk_nil) (n := 1000) (sel := cadd_sel) (fun v o h => by cases h; rfl) (pre := pre) (F := F) (T := fun x => cadd_T (x.1.1) (x.1.2.1) (x.1.2.2.1)) (fun x Q => cadd_q x Q) hF
def addPt (c : Int) (P Q : Pt) : Pt := cond (onB c P) (cond (onB c Q) (narrowP (pS c) (addW (pS c) (widenP P) (widenP Q))) inftyP) inftyP
def cadd_pre (_ : caddX) : Bool := true
def cadd_F (x : caddX) : OT cadd_S.Y := .ok ⟨cadd_o0, ((addPt x.1.1 x.1.2.1 x.1.2.2.1, ()), ())⟩
theorem cadd_ok : SummOk Try.prog 25 (cadd_S.summ cadd_pre cadd_F) := cadd_main _ _ fun x oy _ ho => by
  rw [← ho]
  clear ho
  obtain ⟨⟨c, P, Q, ⟨⟩⟩, ⟨⟩⟩ := x
  show _ = (OT.ok ⟨cadd_o0, ((addPt c P Q, ()), ())⟩ : OT cadd_S.Y).run
  rcases (Bool.eq_false_or_eq_true (onB c P)).symm with h1 | h1
  · have e : addPt c P Q = inftyP := by unfold addPt; rw [h1]; rfl
    rw [e]
    exact OT.run_t (b := !onB c P) (by rw [h1]; rfl)
  · have hs := onB_sort h1
    refine (OT.run_f (b := !onB c P) (by rw [h1]; rfl)).trans ?_
    rcases (Bool.eq_false_or_eq_true (onB c Q)).symm with h2 | h2
    · have e : addPt c P Q = inftyP := by unfold addPt; rw [h1, h2]; rfl
      rw [e]
      exact OT.run_t (b := !onB c Q) (by rw [h2]; rfl)
    · have e : addPt c P Q = narrowP (pS c) (addW (pS c) (widenP P) (widenP Q)) := by unfold addPt; rw [h1, h2]; rfl
      rw [e]
      refine (OT.run_f (b := !onB c Q) (by rw [h2]; rfl)).trans ((gd_run ?_).trans rfl)
      simp only [List.all_cons, List.all_nil, Bool.and_true, Bool.and_eq_true]
      exact ⟨hs, hs⟩
def cadd_summ : Summ := (cadd_S.summ cadd_pre cadd_F)
theorem cadd_known : SummOk Try.prog 25 cadd_summ := cadd_ok
theorem cadd_smono : MonoOk cadd_summ := fn_mono
def E_cadd : Env := envCons 25 cadd_summ E_cadd0
theorem E_cadd_ok : EnvOk Try.prog E_cadd := envOk_cons cadd_known E_cadd0_ok
theorem E_cadd_mono : EnvMono E_cadd := envMono_cons cadd_smono E_cadd0_mono
theorem E_cadd_any : AnyOk Try.prog te E_cadd := any_ok follows te_ok E_cadd_ok E_cadd_mono
def cmulp_S : FnSpec := ⟨[.val false .int, .val true .elem, .val true (.prod .elem (.prod .elem .bool))], [], true, 0, false⟩
abbrev cmulpX : Type := ((Int) × (Elem) × ((Elem × (Elem × Bool))) × Unit) × (Unit)
def cmulp_s0 : Shape := ⟨39, [(4, .ptr 0 0 0), (5, .ptr 1 0 0), (6, .ptr 2 0 0), (7, .val false .int), (8, .ptr 3 0 0), (9, .val false .int)], [(0, .row .u64), (1, .cells [.val false .u64, .val false .u64, .val false .u64, .val false .u64, .val false .u64, .val false .u64, .val false .u64, .val false .u64, .val false .bool]), (2, .cells [.val false .u64, .val false .u64, .val false .u64, .val false .u64, .val false .u64, .val false .u64, .val false .u64, .val false .u64, .val false .bool]), (3, .cells [.val false .u64, .val false .u64, .val false .u64, .val false .u64, .val false .u64, .val false .u64, .val false .u64, .val false .u64, .val false .u64, .val false .u64, .val false .u64, .val false .u64])], 0, true⟩
abbrev cmulp_s0X : Type := ((Unit) × (Unit) × (Unit) × (Int) × (Unit) × (Int) × Unit) × ((List (UInt64)) × ((UInt64) × (UInt64) × (UInt64) × (UInt64) × (UInt64) × (UInt64) × (UInt64) × (UInt64) × (Bool) × Unit) × ((UInt64) × (UInt64) × (UInt64) × (UInt64) × (UInt64) × (UInt64) × (UInt64) × (UInt64) × (Bool) × Unit) × ((UInt64) × (UInt64) × (UInt64) × (UInt64) × (UInt64) × (UInt64) × (UInt64) × (UInt64) × (UInt64) × (UInt64) × (UInt64) × (UInt64) × Unit) × Unit)
def cmulp_e0_0 : Shape := ⟨39, [(6, .ptr 0 0 0), (7, .val false .int), (8, .ptr 1 0 0)], [(0, .cells [.val false .u64, .val false .u64, .val false .u64, .val false .u64, .val false .u64, .val false .u64, .val false .u64, .val false .u64, .val false .bool]), (1, .cells [.val false .u64, .val false .u64, .val false .u64, .val false .u64, .val false .u64, .val false .u64, .val false .u64, .val false .u64, .val false .u64, .val false .u64, .val false .u64, .val false .u64])], 0, true⟩
abbrev cmulp_e0_0X : Type := ((Unit) × (Int) × (Unit) × Unit) × (((UInt64) × (UInt64) × (UInt64) × (UInt64) × (UInt64) × (UInt64) × (UInt64) × (UInt64) × (Bool) × Unit) × ((UInt64) × (UInt64) × (UInt64) × (UInt64) × (UInt64) × (UInt64) × (UInt64) × (UInt64) × (UInt64) × (UInt64) × (UInt64) × (UInt64) × Unit) × Unit)
def cmulp_x0 : SE → Option Shape := xsMk [(0, cmulp_e0_0)] none
def cmulp_T0 (a7 : Int) (a9 : Int) (c0 : List (UInt64)) (c1_0 : UInt64) (c1_1 : UInt64) (c1_2 : UInt64) (c1_3 : UInt64) (c1_4 : UInt64) (c1_5 : UInt64) (c1_6 : UInt64) (c1_7 : UInt64) (c1_8 : Bool) (c2_0 : UInt64) (c2_1 : UInt64) (c2_2 : UInt64) (c2_3 : UInt64) (c2_4 : UInt64) (c2_5 : UInt64) (c2_6 : UInt64) (c2_7 : UInt64) (c2_8 : Bool) (c3_0 : UInt64) (c3_1 : UInt64) (c3_2 : UInt64) (c3_3 : UInt64) (c3_4 : UInt64) (c3_5 : UInt64) (c3_6 : UInt64) (c3_7 : UInt64) (c3_8 : UInt64) (c3_9 : UInt64) (c3_10 : UInt64) (c3_11 : UInt64) : OT (Sum cmulp_s0X LEnd) :=
  let z0 : Elem × Elem × Elem := ({ w0 := c3_0, w1 := c3_1, w2 := c3_2, w3 := c3_3 }, { w0 := c3_4, w1 := c3_5, w2 := c3_6, w3 := c3_7 }, { w0 := c3_8, w1 := c3_9, w2 := c3_10, w3 := c3_11 })
  let z1 : Nat := pS a7
  let z2 : Elem × Elem × Elem := dblW z1 z0
  let z3 : Elem × Elem × Elem := widenP ({ w0 := c1_0, w1 := c1_1, w2 := c1_2, w3 := c1_3 }, { w0 := c1_4, w1 := c1_5, w2 := c1_6, w3 := c1_7 }, c1_8)
  let z4 : Bool := inR (a9 - (1 : Int))
  let z5 : Elem × Elem × Elem := addW z1 z2 z3
  let z6 := z5.fst
  let z7 := z5.snd
  let z8 := z7.fst
  let z9 := z7.snd
  let z10 := z2.fst
  let z11 := z2.snd
  let z12 := z11.fst
  let z13 := z11.snd
  (.br (decide ((0 : Int) ≤ a9))
  (gd [cdouble_pre ((a7, z0, ()), ()), decide (4 ≤ List.length c0)] (.br (bitI { w0 := List.getD c0 0 0, w1 := List.getD c0 1 0, w2 := List.getD c0 2 0, w3 := List.getD c0 3 0 } a9)
    (gd [cadd0_pre ((a7, z2, z3, ()), ()), z4] (.ok (.inl (((), ((), ((), (a7, ((), (a9 - (1 : Int), ())))))), (c0, ((c1_0, (c1_1, (c1_2, (c1_3, (c1_4, (c1_5, (c1_6, (c1_7, (c1_8, ()))))))))), ((c2_0, (c2_1, (c2_2, (c2_3, (c2_4, (c2_5, (c2_6, (c2_7, (c2_8, ()))))))))), ((z6.w0, (z6.w1, (z6.w2, (z6.w3, (z8.w0, (z8.w1, (z8.w2, (z8.w3, (z9.w0, (z9.w1, (z9.w2, (z9.w3, ())))))))))))), ()))))))))
    (gd [z4] (.ok (.inl (((), ((), ((), (a7, ((), (a9 - (1 : Int), ())))))), (c0, ((c1_0, (c1_1, (c1_2, (c1_3, (c1_4, (c1_5, (c1_6, (c1_7, (c1_8, ()))))))))), ((c2_0, (c2_1, (c2_2, (c2_3, (c2_4, (c2_5, (c2_6, (c2_7, (c2_8, ()))))))))), ((z10.w0, (z10.w1, (z10.w2, (z10.w3, (z12.w0, (z12.w1, (z12.w2, (z12.w3, (z13.w0, (z13.w1, (z13.w2, (z13.w3, ())))))))))))), ()))))))))))
  (.ok (.inr ⟨(.exit 0, cmulp_e0_0), (((), (a7, ((), ()))), ((c2_0, (c2_1, (c2_2, (c2_3, (c2_4, (c2_5, (c2_6, (c2_7, (c2_8, ()))))))))), ((c3_0, (c3_1, (c3_2, (c3_3, (c3_4, (c3_5, (c3_6, (c3_7, (c3_8, (c3_9, (c3_10, (c3_11, ())))))))))))), ())))⟩)))
def cmulp_U0 (s : cmulp_s0X) : OT (Sum cmulp_s0X LEnd) := cmulp_T0 (s.1.2.2.2.1) (s.1.2.2.2.2.2.1) (s.2.1) (s.2.2.1.1) (s.2.2.1.2.1) (s.2.2.1.2.2.1) (s.2.2.1.2.2.2.1) (s.2.2.1.2.2.2.2.1) (s.2.2.1.2.2.2.2.2.1) (s.2.2.1.2.2.2.2.2.2.1) (s.2.2.1.2.2.2.2.2.2.2.1) (s.2.2.1.2.2.2.2.2.2.2.2.1) (s.2.2.2.1.1) (s.2.2.2.1.2.1) (s.2.2.2.1.2.2.1) (s.2.2.2.1.2.2.2.1) (s.2.2.2.1.2.2.2.2.1) (s.2.2.2.1.2.2.2.2.2.1) (s.2.2.2.1.2.2.2.2.2.2.1) (s.2.2.2.1.2.2.2.2.2.2.2.1) (s.2.2.2.1.2.2.2.2.2.2.2.2.1) (s.2.2.2.2.1.1) (s.2.2.2.2.1.2.1) (s.2.2.2.2.1.2.2.1) (s.2.2.2.2.1.2.2.2.1) (s.2.2.2.2.1.2.2.2.2.1) (s.2.2.2.2.1.2.2.2.2.2.1) (s.2.2.2.2.1.2.2.2.2.2.2.1) (s.2.2.2.2.1.2.2.2.2.2.2.2.1) (s.2.2.2.2.1.2.2.2.2.2.2.2.2.1) (s.2.2.2.2.1.2.2.2.2.2.2.2.2.2.1) (s.2.2.2.2.1.2.2.2.2.2.2.2.2.2.2.1) (s.2.2.2.2.1.2.2.2.2.2.2.2.2.2.2.2.1)
theorem cmulp_q0 (s : cmulp_s0X) (Q : Sum cmulp_s0X LEnd → Prop) : wps te E_cadd lamNil 1000 (loopOf (codeOf Try.f15) 0) (cmulp_s0.inj s) (stepK cmulp_s0 cmulp_x0 (Q : Sum cmulp_s0.T LEnd → Prop)) = (cmulp_U0 s).wpR Q := by kernel_rfl
def cmulp_f0 (g0_0 : cmulp_s0X → cmulp_e0_0X) (s : cmulp_s0X) : OT LEnd := (.ok ⟨(.exit 0, cmulp_e0_0), g0_0 s⟩)
def cmulp_o0 : OutSh := ⟨[.val true (.prod .elem (.prod .elem .bool))], [], false⟩
def cmulp_sel : SV → Option OutSh := fun _ => some cmulp_o0
def cmulp_T (ok0 : cmulp_s0X → Bool) (g0_0 : cmulp_s0X → cmulp_e0_0X) (a0 : Int) (a1 : Elem) (a2 : (Elem × (Elem × Bool))) : OT cmulp_S.Y :=
  let z0 : Elem := { w0 := 0, w1 := 0, w2 := 0, w3 := 0 }
  let z1 : Int := ixor a0 (1 : Int)
  let z2 : PUnit × PUnit × PUnit × Int × PUnit × Int × PUnit := ((), (), (), a0, (), (255 : Int), ())
  let z3 : Elem := addP (pS z1) a1 z0
  let z4 : (UInt64 × UInt64 × UInt64 × UInt64 × UInt64 × UInt64 × UInt64 × UInt64 × Bool × PUnit) × (UInt64 × UInt64 × UInt64 × UInt64 × UInt64 × UInt64 × UInt64 × UInt64 × Bool × PUnit) × (UInt64 × UInt64 × UInt64 × UInt64 × UInt64 × UInt64 × UInt64 × UInt64 × UInt64 × UInt64 × UInt64 × UInt64 × PUnit) × PUnit := ((a2.fst.w0, a2.fst.w1, a2.fst.w2, a2.fst.w3, a2.snd.fst.w0, a2.snd.fst.w1, a2.snd.fst.w2, a2.snd.fst.w3, a2.snd.snd, ()), ((0 : UInt64), (0 : UInt64), (0 : UInt64), (0 : UInt64), (0 : UInt64), (0 : UInt64), (0 : UInt64), (0 : UInt64), false, ()), ((0 : UInt64), (0 : UInt64), (0 : UInt64), (0 : UInt64), (0 : UInt64), (0 : UInt64), (0 : UInt64), (0 : UInt64), (0 : UInt64), (0 : UInt64), (0 : UInt64), (0 : UInt64), ()), ())
  let z5 : (PUnit × PUnit × PUnit × Int × PUnit × Int × PUnit) × List UInt64 × (UInt64 × UInt64 × UInt64 × UInt64 × UInt64 × UInt64 × UInt64 × UInt64 × Bool × PUnit) × (UInt64 × UInt64 × UInt64 × UInt64 × UInt64 × UInt64 × UInt64 × UInt64 × Bool × PUnit) × (UInt64 × UInt64 × UInt64 × UInt64 × UInt64 × UInt64 × UInt64 × UInt64 × UInt64 × UInt64 × UInt64 × UInt64 × PUnit) × PUnit := (z2, [z3.w0, z3.w1, z3.w2, z3.w3], z4)
  let z6 : (PUnit × Int × PUnit × PUnit) × (UInt64 × UInt64 × UInt64 × UInt64 × UInt64 × UInt64 × UInt64 × UInt64 × Bool × PUnit) × (UInt64 × UInt64 × UInt64 × UInt64 × UInt64 × UInt64 × UInt64 × UInt64 × UInt64 × UInt64 × UInt64 × UInt64 × PUnit) × PUnit := g0_0 z5
  let z7 := z6.fst.snd.fst
  let z8 := z6.snd.snd.fst
  let z9 := z8.snd
  let z10 := z9.snd
  let z11 := z10.snd
  let z12 := z11.snd
  let z13 := z12.snd
  let z14 := z13.snd
  let z15 := z14.snd
  let z16 := z15.snd
  let z17 := z16.snd
  let z18 := z17.snd
  let z19 : Elem × Elem × Elem := ({ w0 := z8.fst, w1 := z9.fst, w2 := z10.fst, w3 := z11.fst }, { w0 := z12.fst, w1 := z13.fst, w2 := z14.fst, w3 := z15.fst }, { w0 := z16.fst, w1 := z17.fst, w2 := z18.fst, w3 := z18.snd.fst })
  let z20 : (PUnit × PUnit × PUnit × Int × PUnit × Int × PUnit) × List UInt64 × (UInt64 × UInt64 × UInt64 × UInt64 × UInt64 × UInt64 × UInt64 × UInt64 × Bool × PUnit) × (UInt64 × UInt64 × UInt64 × UInt64 × UInt64 × UInt64 × UInt64 × UInt64 × Bool × PUnit) × (UInt64 × UInt64 × UInt64 × UInt64 × UInt64 × UInt64 × UInt64 × UInt64 × UInt64 × UInt64 × UInt64 × UInt64 × PUnit) × PUnit := (z2, [(0 : UInt64), (0 : UInt64), (0 : UInt64), (0 : UInt64)], z4)
  let z21 : (PUnit × Int × PUnit × PUnit) × (UInt64 × UInt64 × UInt64 × UInt64 × UInt64 × UInt64 × UInt64 × UInt64 × Bool × PUnit) × (UInt64 × UInt64 × UInt64 × UInt64 × UInt64 × UInt64 × UInt64 × UInt64 × UInt64 × UInt64 × UInt64 × UInt64 × PUnit) × PUnit := g0_0 z20
  let z22 := z21.fst.snd.fst
  let z23 := z21.snd.snd.fst
  let z24 := z23.snd
  let z25 := z24.snd
  let z26 := z25.snd
  let z27 := z26.snd
  let z28 := z27.snd
  let z29 := z28.snd
  let z30 := z29.snd
  let z31 := z30.snd
  let z32 := z31.snd
  let z33 := z32.snd
  let z34 : Elem × Elem × Elem := ({ w0 := z23.fst, w1 := z24.fst, w2 := z25.fst, w3 := z26.fst }, { w0 := z27.fst, w1 := z28.fst, w2 := z29.fst, w3 := z30.fst }, { w0 := z31.fst, w1 := z32.fst, w2 := z33.fst, w3 := z33.snd.fst })
  (.br (!onB a0 a2)
  (.ok ⟨cmulp_o0, (((z0, z0, true), ()), ())⟩)
  (.br (sortOk z1)
    (gd [ok0 z5, cnarrow_pre ((z7, z19, ()), ())] (.ok ⟨cmulp_o0, ((narrowP (pS z7) z19, ()), ())⟩))
    (gd [ok0 z20, cnarrow_pre ((z22, z34, ()), ())] (.ok ⟨cmulp_o0, ((narrowP (pS z22) z34, ()), ())⟩))))
theorem cmulp_q (ok0 : cmulp_s0X → Bool) (g0_0 : cmulp_s0X → cmulp_e0_0X) (x : cmulpX) (Q : cmulp_S.Y → Prop) : wpf te E_cadd (lamCons 0 (loopF cmulp_s0 0 ok0 (cmulp_f0 g0_0)) lamNil) 1000 Try.f15 (cmulp_S.inp.inj x).tm (cmulp_S.inp.inj x).hp (fnK cmulp_S cmulp_sel Q) (fun _ _ => False) = (cmulp_T ok0 g0_0 (x.1.1) (x.1.2.1) (x.1.2.2.1)).wpR Q := by kernel_rfl
theorem cmulp_main (ok0 : cmulp_s0X → Bool) (g0_0 : cmulp_s0X → cmulp_e0_0X) (h0 : ∀ s : cmulp_s0X, ok0 s = true → ∃ m e, loopRun (cmulp_U0) m s = some e ∧ (cmulp_f0 g0_0 s).run = some e) (pre : cmulpX → Bool) (F : cmulpX → OT cmulp_S.Y) (hF : ∀ (x : cmulpX) oy, pre x = true → (F x).run = some oy → (cmulp_T ok0 g0_0 (x.1.1) (x.1.2.1) (x.1.2.2.1)).run = some oy) : SummOk Try.prog 15 (cmulp_S.summ pre F) :=
  fn_tree te_ok E_cadd_ok E_cadd_any (f := 15) (fn := Try.f15) (c := codeOf Try.f15) (by kernel_rfl) (by kernel_rfl) (by kernel_rfl) (S := cmulp_S) (k := 0) (by kernel_rfl) (fun R hR => (lamOk_cons (c := (codeOf Try.f15)) (by kernel_rfl) (id := 0) (by kernel_rfl) (loop_ok te_ok E_cadd_ok E_cadd_any (sh := cmulp_s0) hR (xs := cmulp_x0) (xsMk_small (by kernel_rfl) (by kernel_rfl) hR) xsMk_pan lamOk_nil (n := 1000) (T := cmulp_U0) (fun s Q => cmulp_q0 s Q) (ok := ok0) (f := cmulp_f0 g0_0) h0) lamOk_nil)) (n := 1000) (sel := cmulp_sel) (fun v o h => by cases h; rfl) (pre := pre) (F := F) (T := fun x => cmulp_T ok0 g0_0 (x.1.1) (x.1.2.1) (x.1.2.2.1)) (fun x Q => cmulp_q ok0 g0_0 x Q) hF
abbrev C9 : Type := UInt64 × UInt64 × UInt64 × UInt64 × UInt64 × UInt64 × UInt64 × UInt64 × Bool × Unit
abbrev C12 : Type := UInt64 × UInt64 × UInt64 × UInt64 × UInt64 × UInt64 × UInt64 × UInt64 × UInt64 × UInt64 × UInt64 × UInt64 × Unit
def cellP (t : C9) : Pt := (⟨t.1, t.2.1, t.2.2.1, t.2.2.2.1⟩, ⟨t.2.2.2.2.1, t.2.2.2.2.2.1, t.2.2.2.2.2.2.1, t.2.2.2.2.2.2.2.1⟩, t.2.2.2.2.2.2.2.2.1)
def cellW (t : C12) : Wide := (⟨t.1, t.2.1, t.2.2.1, t.2.2.2.1⟩, ⟨t.2.2.2.2.1, t.2.2.2.2.2.1, t.2.2.2.2.2.2.1, t.2.2.2.2.2.2.2.1⟩, ⟨t.2.2.2.2.2.2.2.2.1, t.2.2.2.2.2.2.2.2.2.1, t.2.2.2.2.2.2.2.2.2.2.1, t.2.2.2.2.2.2.2.2.2.2.2.1⟩)
def flatW (w : Wide) : C12 := (w.1.w0, w.1.w1, w.1.w2, w.1.w3, w.2.1.w0, w.2.1.w1, w.2.1.w2, w.2.1.w3, w.2.2.w0, w.2.2.w1, w.2.2.w2, w.2.2.w3, ())
def mulStep (p : Nat) (k : Elem) (P : Wide) (n : Nat) (w : Wide) : Wide := cond (bitI k (255 - (n : Int))) (addW p (dblW p w) P) (dblW p w)
def cmulp_ok0 (s : cmulp_s0X) : Bool := sortOk s.1.2.2.2.1 && decide (s.1.2.2.2.2.2.1 = 255 ∧ s.2.1.length = 4)
def cmulp_g0 (s : cmulp_s0X) : cmulp_e0_0X := (((), s.1.2.2.2.1, (), ()), (s.2.2.2.1, flatW (upto (mulStep (pS s.1.2.2.2.1) (elemOf s.2.1) (widenP (cellP s.2.2.1))) (cellW s.2.2.2.2.1) 256), ()))
theorem cmulp_h0 : ∀ s : cmulp_s0X, cmulp_ok0 s = true → ∃ m e, loopRun cmulp_U0 m s = some e ∧ (cmulp_f0 cmulp_g0 s).run = some e := by
  rintro ⟨⟨⟨⟩, ⟨⟩, ⟨⟩, c, ⟨⟩, i, ⟨⟩⟩, ⟨l, ⟨p0, p1, p2, p3, p4, p5, p6, p7, p8, ⟨⟩⟩, ⟨q0, q1, q2, q3, q4, q5, q6, q7, q8, ⟨⟩⟩, ⟨w0, w1, w2, w3, w4, w5, w6, w7, w8, w9, w10, w11, ⟨⟩⟩, ⟨⟩⟩⟩ h
  simp only [cmulp_ok0, Bool.and_eq_true, decide_eq_true_eq] at h
  obtain ⟨hs, rfl, hl⟩ := h
  obtain ⟨k, rfl⟩ : ∃ a, l = lst a := ⟨elemOf l, (lst_elemOf hl).symm⟩
  have := (loop_upto (T := cmulp_U0) (fun n w => ((((), (), (), c, (), 255 - (n : Int), ()), (lst k, (p0, p1, p2, p3, p4, p5, p6, p7, p8, ()), (q0, q1, q2, q3, q4, q5, q6, q7, q8, ()), flatW w, ())) : cmulp_s0X)) (mulStep (pS c) k (widenP (cellP (p0, p1, p2, p3, p4, p5, p6, p7, p8, ()))))
    (fun w => (⟨(.exit 0, cmulp_e0_0), (((), c, (), ()), ((q0, q1, q2, q3, q4, q5, q6, q7, q8, ()), flatW w, ()))⟩ : LEnd)) 256 (cellW (w0, w1, w2, w3, w4, w5, w6, w7, w8, w9, w10, w11, ())) (fun _ _ => True) trivial (fun n w hn _ => ⟨?_, trivial⟩) (fun w _ => ?_)).1
  · obtain ⟨m, hm⟩ := this
    exact ⟨m, _, hm, rfl⟩
  · have e2 : (255 : Int) - (n : Int) - 1 = 255 - ((n + 1 : Nat) : Int) := by omega
    refine (OT.run_t (decide_eq_true (by dsimp only; omega))).trans ((gd_run ?_).trans ?_)
    · simp only [List.all_cons, List.all_nil, Bool.and_true, Bool.and_eq_true]
      exact ⟨hs, rfl⟩
    · rcases (Bool.eq_false_or_eq_true (bitI k (255 - (n : Int)))).symm with hb | hb
      · have e : mulStep (pS c) k (widenP (cellP (p0, p1, p2, p3, p4, p5, p6, p7, p8, ()))) n w = dblW (pS c) w := by unfold mulStep; rw [hb]; rfl
        rw [e, ← e2]
        refine (OT.run_f hb).trans ((gd_run ?_).trans rfl)
        simp only [List.all_cons, List.all_nil, Bool.and_true]
        exact inR_of (by omega)
      · have e : mulStep (pS c) k (widenP (cellP (p0, p1, p2, p3, p4, p5, p6, p7, p8, ()))) n w = addW (pS c) (dblW (pS c) w) (widenP (cellP (p0, p1, p2, p3, p4, p5, p6, p7, p8, ()))) := by unfold mulStep; rw [hb]; rfl
        rw [e, ← e2]
        refine (OT.run_t hb).trans ((gd_run ?_).trans rfl)
        simp only [List.all_cons, List.all_nil, Bool.and_true, Bool.and_eq_true]
        exact ⟨hs, inR_of (by omega)⟩
  · exact OT.run_f (decide_eq_false (by dsimp only; omega))
def wide0 : Wide := (⟨0, 0, 0, 0⟩, ⟨0, 0, 0, 0⟩, ⟨0, 0, 0, 0⟩)
def mulW (p : Nat) (k : Elem) (P : Wide) : Wide := upto (mulStep p k P) wide0 256
def scalP (c : Int) (k : Elem) : Elem := addP (pS (ixor c 1)) k ⟨0, 0, 0, 0⟩
def mulPt (c : Int) (k : Elem) (P : Pt) : Pt := cond (onB c P) (narrowP (pS c) (mulW (pS c) (scalP c k) (widenP P))) inftyP
theorem sort_other {c : Int} (h : sortOk c = true) : sortOk (ixor c 1) = true := by
  rcases sortOk_cases h with rfl | rfl | rfl | rfl <;> decide +kernel
def cmulp_pre (_ : cmulpX) : Bool := true
def cmulp_F (x : cmulpX) : OT cmulp_S.Y := .ok ⟨cmulp_o0, ((mulPt x.1.1 x.1.2.1 x.1.2.2.1, ()), ())⟩
theorem cmulp_ok : SummOk Try.prog 15 (cmulp_S.summ cmulp_pre cmulp_F) := cmulp_main cmulp_ok0 cmulp_g0 cmulp_h0 _ _ fun x oy _ ho => by
  rw [← ho]
  clear ho
  obtain ⟨⟨c, k, P, ⟨⟩⟩, ⟨⟩⟩ := x
  show _ = (OT.ok ⟨cmulp_o0, ((mulPt c k P, ()), ())⟩ : OT cmulp_S.Y).run
  rcases (Bool.eq_false_or_eq_true (onB c P)).symm with h1 | h1
  · have e : mulPt c k P = inftyP := by unfold mulPt; rw [h1]; rfl
    rw [e]
    exact OT.run_t (b := !onB c P) (by rw [h1]; rfl)
  · have hs := onB_sort h1
    have e : mulPt c k P = narrowP (pS c) (mulW (pS c) (scalP c k) (widenP P)) := by unfold mulPt; rw [h1]; rfl
    rw [e]
    refine (OT.run_f (b := !onB c P) (by rw [h1]; rfl)).trans ((OT.run_t (sort_other hs)).trans ((gd_run ?_).trans ?_))
    · simp only [List.all_cons, List.all_nil, Bool.and_true, Bool.and_eq_true]
      refine ⟨?_, hs⟩
      refine (Bool.and_eq_true _ _).mpr ⟨hs, ?_⟩
      exact decide_eq_true (p := (255 : Int) = 255 ∧ (lst (scalP c k)).length = 4) ⟨rfl, rfl⟩
    · rfl
def cmulp_summ : Summ := (cmulp_S.summ cmulp_pre cmulp_F)
theorem cmulp_known : SummOk Try.prog 15 cmulp_summ := cmulp_ok
theorem cmulp_smono : MonoOk cmulp_summ := fn_mono
def E_cmulp : Env := envCons 15 cmulp_summ E_cadd
theorem E_cmulp_ok : EnvOk Try.prog E_cmulp := envOk_cons cmulp_known E_cadd_ok
theorem E_cmulp_mono : EnvMono E_cmulp := envMono_cons cmulp_smono E_cadd_mono
theorem E_cmulp_any : AnyOk Try.prog te E_cmulp := any_ok follows te_ok E_cmulp_ok E_cmulp_mono
def r2mod_S : FnSpec := ⟨[.val false .int], [], true, 0, false⟩
abbrev r2modX : Type := ((Int) × Unit) × (Unit)
def r2mod_o0 : OutSh := ⟨[.val true .elem, .val false .int], [], false⟩
def r2mod_sel : SV → Option OutSh := fun _ => some r2mod_o0
def r2mod_T (a0 : Int) : OT r2mod_S.Y :=
  (.br (a0 == (0 : Int))
  (.ok ⟨r2mod_o0, (({ w0 := 16513537, w1 := 0, w2 := 0, w3 := 0 }, ((0 : Int), ())), ())⟩)
  (.br (a0 == (1 : Int))
    (.ok ⟨r2mod_o0, (({ w0 := 16521217, w1 := 0, w2 := 0, w3 := 0 }, ((0 : Int), ())), ())⟩)
    (.br (a0 == (2 : Int))
      (.ok ⟨r2mod_o0, (({ w0 := 11037532056220336129, w1 := 2469829653914515739, w2 := 0, w3 := 4611686018427387904 }, ((0 : Int), ())), ())⟩)
      (.br (a0 == (3 : Int))
        (.ok ⟨r2mod_o0, (({ w0 := 10108024940646105089, w1 := 2469829653919213789, w2 := 0, w3 := 4611686018427387904 }, ((0 : Int), ())), ())⟩)
        (.ok ⟨r2mod_o0, (({ w0 := 0, w1 := 0, w2 := 0, w3 := 0 }, ((20 : Int), ())), ())⟩)))))
theorem r2mod_q (x : r2modX) (Q : r2mod_S.Y → Prop) : wpf te E_cmulp lamNil 1000 Try.f85 (r2mod_S.inp.inj x).tm (r2mod_S.inp.inj x).hp (fnK r2mod_S r2mod_sel Q) (fun _ _ => False) = (r2mod_T (x.1.1)).wpR Q := by kernel_rfl
theorem r2mod_main (pre : r2modX → Bool) (F : r2modX → OT r2mod_S.Y) (hF : ∀ (x : r2modX) oy, pre x = true → (F x).run = some oy → (r2mod_T (x.1.1)).run = some oy) : SummOk Try.prog 85 (r2mod_S.summ pre F) :=
  fn_tree te_ok E_cmulp_ok E_cmulp_any (f := 85) (fn := Try.f85) (c := codeOf Try.f85) (by kernel_rfl) (by kernel_rfl) (by kernel_rfl) (S := r2mod_S) (k := 0) (by kernel_rfl) (fun R hR => lamOk_nil) (n := 1000) (sel := r2mod_sel) (fun v o h => by cases h; rfl) (pre := pre) (F := F) (T := fun x => r2mod_T (x.1.1)) (fun x Q => r2mod_q x Q) hF
def r2mod_pre (_ : r2modX) : Bool := true
def r2mod_F (x : r2modX) : OT r2mod_S.Y := .br (sortOk x.1.1) (.ok ⟨r2mod_o0, (((numOf x.1.1.toNat).1, ((0 : Int), ())), ())⟩) (.ok ⟨r2mod_o0, ((⟨0, 0, 0, 0⟩, ((20 : Int), ())), ())⟩)
theorem r2mod_ok : SummOk Try.prog 85 (r2mod_S.summ r2mod_pre r2mod_F) := r2mod_main _ _ fun x oy _ ho => by
  rw [← ho]
  clear ho
  obtain ⟨⟨s, ⟨⟩⟩, ⟨⟩⟩ := x
  cases hs : sortOk s
  · obtain ⟨h0, h1, h2, h3⟩ := sortOk_not hs
    exact (OT.run_f h0).trans ((OT.run_f h1).trans ((OT.run_f h2).trans ((OT.run_f h3).trans (OT.run_f (b := sortOk s) hs).symm)))
  · rcases sortOk_cases hs with h | h | h | h
    all_goals
      have h : s = _ := h
      subst h
      rfl
def r2mod_summ : Summ := (r2mod_S.summ r2mod_pre r2mod_F)
theorem r2mod_known : SummOk Try.prog 85 r2mod_summ := r2mod_ok
theorem r2mod_smono : MonoOk r2mod_summ := fn_mono
def E_r2mod : Env := envCons 85 r2mod_summ E_cmulp
theorem E_r2mod_ok : EnvOk Try.prog E_r2mod := envOk_cons r2mod_known E_cmulp_ok
theorem E_r2mod_mono : EnvMono E_r2mod := envMono_cons r2mod_smono E_cmulp_mono
theorem E_r2mod_any : AnyOk Try.prog te E_r2mod := any_ok follows te_ok E_r2mod_ok E_r2mod_mono
def r2adi_S : FnSpec := ⟨[.val false .int], [], true, 0, false⟩
abbrev r2adiX : Type := ((Int) × Unit) × (Unit)
def r2adi_o0 : OutSh := ⟨[.val false .int, .val false .int], [], false⟩
def r2adi_sel : SV → Option OutSh := fun _ => some r2adi_o0
def r2adi_T (a0 : Int) : OT r2adi_S.Y :=
  (.br (decide (a0 < (0 : Int)))
  (.ok ⟨r2adi_o0, (((0 : Int), ((20 : Int), ())), ())⟩)
  (.br (decide ((3 : Int) < a0))
    (.ok ⟨r2adi_o0, (((0 : Int), ((20 : Int), ())), ())⟩)
    (gd [inB a0 4, decide (Int.toNat a0 + 0 < 4)] (.ok ⟨r2adi_o0, ((List.getD [(9 : Int), (11 : Int), (32 : Int), (32 : Int)] (Int.toNat a0 + 0) (0 : Int), ((0 : Int), ())), ())⟩))))
theorem r2adi_q (x : r2adiX) (Q : r2adi_S.Y → Prop) : wpf te E_r2mod lamNil 1000 Try.f106 (r2adi_S.inp.inj x).tm (r2adi_S.inp.inj x).hp (fnK r2adi_S r2adi_sel Q) (fun _ _ => False) = (r2adi_T (x.1.1)).wpR Q := by kernel_rfl
theorem r2adi_main (pre : r2adiX → Bool) (F : r2adiX → OT r2adi_S.Y) (hF : ∀ (x : r2adiX) oy, pre x = true → (F x).run = some oy → (r2adi_T (x.1.1)).run = some oy) : SummOk Try.prog 106 (r2adi_S.summ pre F) :=
  fn_tree te_ok E_r2mod_ok E_r2mod_any (f := 106) (fn := Try.f106) (c := codeOf Try.f106) (by kernel_rfl) (by kernel_rfl) (by kernel_rfl) (S := r2adi_S) (k := 0) (by kernel_rfl) (fun R hR => lamOk_nil) (n := 1000) (sel := r2adi_sel) (fun v o h => by cases h; rfl) (pre := pre) (F := F) (T := fun x => r2adi_T (x.1.1)) (fun x Q => r2adi_q x Q) hF
def r2adi_pre (_ : r2adiX) : Bool := true
def r2adi_F (x : r2adiX) : OT r2adi_S.Y := .br (sortOk x.1.1) (.ok ⟨r2adi_o0, (((numOf x.1.1.toNat).2.1, ((0 : Int), ())), ())⟩) (.ok ⟨r2adi_o0, (((0 : Int), ((20 : Int), ())), ())⟩)
theorem r2adi_ok : SummOk Try.prog 106 (r2adi_S.summ r2adi_pre r2adi_F) := r2adi_main _ _ fun x oy _ ho => by
  rw [← ho]
  clear ho
  obtain ⟨⟨s, ⟨⟩⟩, ⟨⟩⟩ := x
  rcases (Bool.eq_false_or_eq_true (sortOk s)).symm with hs | hs
  · refine Eq.trans ?_ (OT.run_f (b := sortOk s) hs).symm
    by_cases h0 : s < 0
    · exact OT.run_t (decide_eq_true h0)
    · refine (OT.run_f (decide_eq_false h0)).trans (OT.run_t (decide_eq_true ?_))
      show (3 : Int) < s
      simp only [sortOk, Bool.and_eq_false_iff, decide_eq_false_iff_not] at hs
      omega
  · rcases sortOk_cases hs with h | h | h | h
    all_goals
      have h : s = _ := h
      subst h
      rfl
def r2adi_summ : Summ := (r2adi_S.summ r2adi_pre r2adi_F)
theorem r2adi_known : SummOk Try.prog 106 r2adi_summ := r2adi_ok
theorem r2adi_smono : MonoOk r2adi_summ := fn_mono
def E_r2adi : Env := envCons 106 r2adi_summ E_r2mod
theorem E_r2adi_ok : EnvOk Try.prog E_r2adi := envOk_cons r2adi_known E_r2mod_ok
theorem E_r2adi_mono : EnvMono E_r2adi := envMono_cons r2adi_smono E_r2mod_mono
theorem E_r2adi_any : AnyOk Try.prog te E_r2adi := any_ok follows te_ok E_r2adi_ok E_r2adi_mono
def r2lit_S : FnSpec := ⟨[.val false .int], [], true, 0, false⟩
abbrev r2litX : Type := ((Int) × Unit) × (Unit)
def r2lit_o0 : OutSh := ⟨[.val false .u64], [], false⟩
def r2lit_sel : SV → Option OutSh := fun _ => some r2lit_o0
def r2lit_T (a0 : Int) : OT r2lit_S.Y :=
  (.br (a0 == (0 : Int))
  (.ok ⟨r2lit_o0, (((16513537 : UInt64), ()), ())⟩)
  (.ok ⟨r2lit_o0, (((16521217 : UInt64), ()), ())⟩))
theorem r2lit_q (x : r2litX) (Q : r2lit_S.Y → Prop) : wpf te E_r2adi lamNil 1000 Try.f75 (r2lit_S.inp.inj x).tm (r2lit_S.inp.inj x).hp (fnK r2lit_S r2lit_sel Q) (fun _ _ => False) = (r2lit_T (x.1.1)).wpR Q := by kernel_rfl
theorem r2lit_main (pre : r2litX → Bool) (F : r2litX → OT r2lit_S.Y) (hF : ∀ (x : r2litX) oy, pre x = true → (F x).run = some oy → (r2lit_T (x.1.1)).run = some oy) : SummOk Try.prog 75 (r2lit_S.summ pre F) :=
  fn_tree te_ok E_r2adi_ok E_r2adi_any (f := 75) (fn := Try.f75) (c := codeOf Try.f75) (by kernel_rfl) (by kernel_rfl) (by kernel_rfl) (S := r2lit_S) (k := 0) (by kernel_rfl) (fun R hR => lamOk_nil) (n := 1000) (sel := r2lit_sel) (fun v o h => by cases h; rfl) (pre := pre) (F := F) (T := fun x => r2lit_T (x.1.1)) (fun x Q => r2lit_q x Q) hF
def litM (s : Int) : UInt64 := cond (s == 0) 16513537 16521217
def r2lit_pre (_ : r2litX) : Bool := true
def r2lit_F (x : r2litX) : OT r2lit_S.Y := .ok ⟨r2lit_o0, ((litM x.1.1, ()), ())⟩
theorem r2lit_ok : SummOk Try.prog 75 (r2lit_S.summ r2lit_pre r2lit_F) := r2lit_main _ _ fun x oy _ ho => by
  rw [← ho]
  clear ho
  obtain ⟨⟨s, ⟨⟩⟩, ⟨⟩⟩ := x
  show _ = (OT.ok ⟨r2lit_o0, ((litM s, ()), ())⟩ : OT r2lit_S.Y).run
  unfold litM
  rcases (Bool.eq_false_or_eq_true (s == 0)).symm with h | h
  · rw [h]; exact OT.run_f h
  · rw [h]; exact OT.run_t h
def r2lit_summ : Summ := (r2lit_S.summ r2lit_pre r2lit_F)
theorem r2lit_known : SummOk Try.prog 75 r2lit_summ := r2lit_ok
theorem r2lit_smono : MonoOk r2lit_summ := fn_mono
def E_r2lit : Env := envCons 75 r2lit_summ E_r2adi
theorem E_r2lit_ok : EnvOk Try.prog E_r2lit := envOk_cons r2lit_known E_r2adi_ok
theorem E_r2lit_mono : EnvMono E_r2lit := envMono_cons r2lit_smono E_r2adi_mono
theorem E_r2lit_any : AnyOk Try.prog te E_r2lit := any_ok follows te_ok E_r2lit_ok E_r2lit_mono
def r2below_S : FnSpec := ⟨[.val true .elem, .val true .elem], [], true, 0, false⟩
abbrev r2belowX : Type := ((Elem) × (Elem) × Unit) × (Unit)
def r2below_s0 : Shape := ⟨24, [(2, .ptr 0 0 0), (3, .ptr 1 0 0), (5, .val false .int)], [(0, .row .u64), (1, .row .u64)], 0, true⟩
abbrev r2below_s0X : Type := ((Unit) × (Unit) × (Int) × Unit) × ((List (UInt64)) × (List (UInt64)) × Unit)
def r2below_e0_r : Shape := ⟨24, [(4, .val false .bool)], [], 0, true⟩
abbrev r2below_e0_rX : Type := ((Bool) × Unit) × (Unit)
def r2below_e0_0 : Shape := ⟨24, [], [], 0, true⟩
abbrev r2below_e0_0X : Type := (Unit) × (Unit)
def r2below_x0 : SE → Option Shape := xsMk [(0, r2below_e0_0)] (some r2below_e0_r)
def r2below_T0 (a5 : Int) (c0 : List (UInt64)) (c1 : List (UInt64)) : OT (Sum r2below_s0X LEnd) :=
  let z0 : Bool := inB a5 4
  let z1 : Bool := decide (Int.toNat a5 + 0 < List.length c0)
  let z2 : Bool := decide (Int.toNat a5 + 0 < List.length c1)
  let z3 : UInt64 := List.getD c0 (Int.toNat a5 + 0) (0 : UInt64)
  let z4 : UInt64 := List.getD c1 (Int.toNat a5 + 0) (0 : UInt64)
  (.br (decide ((0 : Int) ≤ a5))
  (gd [z0, z1, z0, z2] (.br (!z3 == z4)
    (gd [z0, z1, z0, z2] (.ok (.inr ⟨(.ret, r2below_e0_r), ((decide (z3 < z4), ()), ())⟩)))
    (gd [inR (a5 - (1 : Int))] (.ok (.inl (((), ((), (a5 - (1 : Int), ()))), (c0, (c1, ()))))))))
  (.ok (.inr ⟨(.exit 0, r2below_e0_0), ((), ())⟩)))
def r2below_U0 (s : r2below_s0X) : OT (Sum r2below_s0X LEnd) := r2below_T0 (s.1.2.2.1) (s.2.1) (s.2.2.1)
theorem r2below_q0 (s : r2below_s0X) (Q : Sum r2below_s0X LEnd → Prop) : wps te E_r2lit lamNil 1000 (loopOf (codeOf Try.f86) 0) (r2below_s0.inj s) (stepK r2below_s0 r2below_x0 (Q : Sum r2below_s0.T LEnd → Prop)) = (r2below_U0 s).wpR Q := by kernel_rfl
def r2below_f0 (g0_r : r2below_s0X → r2below_e0_rX) (c0_r : r2below_s0X → Bool) (g0_0 : r2below_s0X → r2below_e0_0X) (s : r2below_s0X) : OT LEnd := (.br (c0_r s) (.ok ⟨(.ret, r2below_e0_r), g0_r s⟩) (.ok ⟨(.exit 0, r2below_e0_0), g0_0 s⟩))
def r2below_o0 : OutSh := ⟨[.val false .bool], [], false⟩
def r2below_sel : SV → Option OutSh := fun _ => some r2below_o0
def r2below_T (ok0 : r2below_s0X → Bool) (g0_r : r2below_s0X → r2below_e0_rX) (c0_r : r2below_s0X → Bool) (g0_0 : r2below_s0X → r2below_e0_0X) (a0 : Elem) (a1 : Elem) : OT r2below_S.Y :=
  let z0 : (PUnit × PUnit × Int × PUnit) × List UInt64 × List UInt64 × PUnit := (((), (), (3 : Int), ()), [a0.w0, a0.w1, a0.w2, a0.w3], [a1.w0, a1.w1, a1.w2, a1.w3], ())
  (gd [ok0 z0] (.br (c0_r z0)
  (.ok ⟨r2below_o0, (((g0_r z0).fst.fst, ()), ())⟩)
  (.ok ⟨r2below_o0, ((false, ()), ())⟩)))
theorem r2below_q (ok0 : r2below_s0X → Bool) (g0_r : r2below_s0X → r2below_e0_rX) (c0_r : r2below_s0X → Bool) (g0_0 : r2below_s0X → r2below_e0_0X) (x : r2belowX) (Q : r2below_S.Y → Prop) : wpf te E_r2lit (lamCons 0 (loopF r2below_s0 0 ok0 (r2below_f0 g0_r c0_r g0_0)) lamNil) 1000 Try.f86 (r2below_S.inp.inj x).tm (r2below_S.inp.inj x).hp (fnK r2below_S r2below_sel Q) (fun _ _ => False) = (r2below_T ok0 g0_r c0_r g0_0 (x.1.1) (x.1.2.1)).wpR Q := by kernel_rfl
theorem r2below_main (ok0 : r2below_s0X → Bool) (g0_r : r2below_s0X → r2below_e0_rX) (c0_r : r2below_s0X → Bool) (g0_0 : r2below_s0X → r2below_e0_0X) (h0 : ∀ s : r2below_s0X, ok0 s = true → ∃ m e, loopRun (r2below_U0) m s = some e ∧ (r2below_f0 g0_r c0_r g0_0 s).run = some e) (pre : r2belowX → Bool) (F : r2belowX → OT r2below_S.Y) (hF : ∀ (x : r2belowX) oy, pre x = true → (F x).run = some oy → (r2below_T ok0 g0_r c0_r g0_0 (x.1.1) (x.1.2.1)).run = some oy) : SummOk Try.prog 86 (r2below_S.summ pre F) :=
  fn_tree te_ok E_r2lit_ok E_r2lit_any (f := 86) (fn := Try.f86) (c := codeOf Try.f86) (by kernel_rfl) (by kernel_rfl) (by kernel_rfl) (S := r2below_S) (k := 0) (by kernel_rfl) (fun R hR => (lamOk_cons (c := (codeOf Try.f86)) (by kernel_rfl) (id := 0) (by kernel_rfl) (loop_ok te_ok E_r2lit_ok E_r2lit_any (sh := r2below_s0) hR (xs := r2below_x0) (xsMk_small (by kernel_rfl) (by kernel_rfl) hR) xsMk_pan lamOk_nil (n := 1000) (T := r2below_U0) (fun s Q => r2below_q0 s Q) (ok := ok0) (f := r2below_f0 g0_r c0_r g0_0) h0) lamOk_nil)) (n := 1000) (sel := r2below_sel) (fun v o h => by cases h; rfl) (pre := pre) (F := F) (T := fun x => r2below_T ok0 g0_r c0_r g0_0 (x.1.1) (x.1.2.1)) (fun x Q => r2below_q ok0 g0_r c0_r g0_0 x Q) hF
theorem lt_top {x y N M : Nat} (hx : x < 18446744073709551616) (hy : y < 18446744073709551616) (h : ¬ N = M) : (x + 18446744073709551616 * N < y + 18446744073709551616 * M ↔ N < M) ∧ ¬ x + 18446744073709551616 * N = y + 18446744073709551616 * M := by
  omega
theorem lt_low {x y N : Nat} : (x + 18446744073709551616 * N < y + 18446744073709551616 * N ↔ x < y) ∧ (¬ x = y → ¬ x + 18446744073709551616 * N = y + 18446744073709551616 * N) := by
  omega
theorem blt_dec {n m : Nat} {x y : UInt64} (h : n < m ↔ x.toNat < y.toNat) : decide (x < y) = Nat.blt n m := by
  have h1 : Nat.blt n m = true ↔ n < m := ⟨blt_of, fun h => Nat.ble_eq_true_of_le h⟩
  rw [Bool.eq_iff_iff, decide_eq_true_iff, h1, h, UInt64.lt_iff_toNat_lt]
theorem ne_word {x y : UInt64} (h : ¬ x = y) : ¬ x.toNat = y.toNat := fun e => h (UInt64.toNat_inj.1 e)
def below_st (a b : Elem) (i : Int) : r2below_s0X := (((), (), i, ()), (lst a, lst b, ()))
theorem below_same (a b : Elem) (k : Nat) (hk : k < 4) (h : (lst a).getD k 0 = (lst b).getD k 0) : (r2below_U0 (below_st a b (k : Int))).run = some (.inl (below_st a b ((k : Int) - 1))) := by
  refine (OT.run_t (decide_eq_true (by dsimp only [below_st]; omega))).trans ((gd_run ?_).trans ((OT.run_f ?_).trans ((gd_run ?_).trans rfl)))
  · simp only [below_st, Int.toNat_natCast, Nat.add_zero, lst_length, List.all_cons, List.all_nil, Bool.and_true, Bool.and_eq_true]
    exact ⟨inB_of (by omega), decide_eq_true hk, inB_of (by omega), decide_eq_true hk⟩
  · simp only [below_st, Int.toNat_natCast, Nat.add_zero, h, beq_self_eq_true, Bool.not_true]
  · simp only [below_st, List.all_cons, List.all_nil, Bool.and_true]
    exact inR_of (by omega)
theorem below_differ (a b : Elem) (k : Nat) (hk : k < 4) (h : ¬ (lst a).getD k 0 = (lst b).getD k 0) : (r2below_U0 (below_st a b (k : Int))).run = some (.inr ⟨(.ret, r2below_e0_r), ((decide ((lst a).getD k 0 < (lst b).getD k 0), ()), ())⟩) := by
  refine (OT.run_t (decide_eq_true (by dsimp only [below_st]; omega))).trans ((gd_run ?_).trans ((OT.run_t ?_).trans ((gd_run ?_).trans ?_)))
  · simp only [below_st, Int.toNat_natCast, Nat.add_zero, lst_length, List.all_cons, List.all_nil, Bool.and_true, Bool.and_eq_true]
    exact ⟨inB_of (by omega), decide_eq_true hk, inB_of (by omega), decide_eq_true hk⟩
  · simp only [below_st, Int.toNat_natCast, Nat.add_zero, beq_eq_false_iff_ne.2 h, Bool.not_false]
  · simp only [below_st, Int.toNat_natCast, Nat.add_zero, lst_length, List.all_cons, List.all_nil, Bool.and_true, Bool.and_eq_true]
    exact ⟨inB_of (by omega), decide_eq_true hk, inB_of (by omega), decide_eq_true hk⟩
  · simp only [below_st, Int.toNat_natCast, Nat.add_zero]
    rfl
def r2below_ok0 (s : r2below_s0X) : Bool := decide (s.1.2.2.1 = 3 ∧ s.2.1.length = 4 ∧ s.2.2.1.length = 4)
def r2below_gr (s : r2below_s0X) : r2below_e0_rX := ((Nat.blt (elemOf s.2.1).nat (elemOf s.2.2.1).nat, ()), ())
def r2below_c (s : r2below_s0X) : Bool := !eqE (elemOf s.2.1) (elemOf s.2.2.1)
def r2below_g0 (_ : r2below_s0X) : r2below_e0_0X := ((), ())
theorem below_ret {a b : Elem} (h : ¬ a = b) {r : Bool} (hr : r = Nat.blt a.nat b.nat) (hm : ∃ m, loopRun r2below_U0 m (below_st a b 3) = some ⟨(.ret, r2below_e0_r), ((r, ()), ())⟩) :
    ∃ m e, loopRun r2below_U0 m (below_st a b 3) = some e ∧ (r2below_f0 r2below_gr r2below_c r2below_g0 (below_st a b 3)).run = some e := by
  obtain ⟨m, hm⟩ := hm
  refine ⟨m, _, hm, ?_⟩
  have hc : r2below_c (below_st a b 3) = true := by
    show (!eqE a b) = true
    rw [Bool.eq_false_iff.2 fun e => h (eqE_iff.1 e)]
    rfl
  subst hr
  exact OT.run_t hc
theorem r2below_h0 : ∀ s : r2below_s0X, r2below_ok0 s = true → ∃ m e, loopRun r2below_U0 m s = some e ∧ (r2below_f0 r2below_gr r2below_c r2below_g0 s).run = some e := by
  rintro ⟨⟨⟨⟩, ⟨⟩, i, ⟨⟩⟩, ⟨l1, l2, ⟨⟩⟩⟩ h
  have h' := of_decide_eq_true h
  dsimp only at h'
  obtain ⟨rfl, h1, h2⟩ := h'
  obtain ⟨a, rfl⟩ : ∃ a, l1 = lst a := ⟨elemOf l1, (lst_elemOf h1).symm⟩
  obtain ⟨b, rfl⟩ : ∃ a, l2 = lst a := ⟨elemOf l2, (lst_elemOf h2).symm⟩
  have ha0 := a.w0.toNat_lt
  have hb0 := b.w0.toNat_lt
  have ha1 := a.w1.toNat_lt
  have hb1 := b.w1.toNat_lt
  have ha2 := a.w2.toNat_lt
  have hb2 := b.w2.toNat_lt
  by_cases h3 : a.w3 = b.w3
  · have s3 := below_same a b 3 (by omega) h3
    by_cases h2 : a.w2 = b.w2
    · have s2 := below_same a b 2 (by omega) h2
      by_cases h1 : a.w1 = b.w1
      · have s1 := below_same a b 1 (by omega) h1
        by_cases h0 : a.w0 = b.w0
        · have s0 := below_same a b 0 (by omega) h0
          have e : a = b := by cases a; cases b; simp_all
          have sx : (r2below_U0 (below_st a b (((0 : Nat) : Int) - 1))).run = some (.inr ⟨(.exit 0, r2below_e0_0), ((), ())⟩) := OT.run_f (decide_eq_false (by dsimp only [below_st]; omega))
          refine ⟨_, _, loopRun_more s3 (loopRun_more s2 (loopRun_more s1 (loopRun_more s0 (loopRun_out sx)))), ?_⟩
          have hc : r2below_c (((), (), 3, ()), (lst a, lst b, ())) = false := by
            show (!eqE a b) = false
            rw [e, eqE_self]
            rfl
          exact OT.run_f hc
        · refine below_ret (fun e => h0 (by rw [e])) (blt_dec ?_) ⟨_, loopRun_more s3 (loopRun_more s2 (loopRun_more s1 (loopRun_out (below_differ a b 0 (by omega) h0))))⟩
          show a.nat < b.nat ↔ a.w0.toNat < b.w0.toNat
          unfold Sx.Elem.nat
          rw [h3, h2, h1]
          exact lt_low.1
      · refine below_ret (fun e => h1 (by rw [e])) (blt_dec ?_) ⟨_, loopRun_more s3 (loopRun_more s2 (loopRun_out (below_differ a b 1 (by omega) h1)))⟩
        show a.nat < b.nat ↔ a.w1.toNat < b.w1.toNat
        unfold Sx.Elem.nat
        rw [h3, h2]
        have k := lt_low (x := a.w1.toNat) (y := b.w1.toNat) (N := b.w2.toNat + 18446744073709551616 * b.w3.toNat)
        exact (lt_top ha0 hb0 (k.2 (ne_word h1))).1.trans k.1
    · refine below_ret (fun e => h2 (by rw [e])) (blt_dec ?_) ⟨_, loopRun_more s3 (loopRun_out (below_differ a b 2 (by omega) h2))⟩
      show a.nat < b.nat ↔ a.w2.toNat < b.w2.toNat
      unfold Sx.Elem.nat
      rw [h3]
      have k := lt_low (x := a.w2.toNat) (y := b.w2.toNat) (N := b.w3.toNat)
      have k1 := lt_top ha1 hb1 (k.2 (ne_word h2))
      exact (lt_top ha0 hb0 k1.2).1.trans (k1.1.trans k.1)
  · refine below_ret (fun e => h3 (by rw [e])) (blt_dec ?_) ⟨_, loopRun_out (below_differ a b 3 (by omega) h3)⟩
    show a.nat < b.nat ↔ a.w3.toNat < b.w3.toNat
    unfold Sx.Elem.nat
    have k2 := lt_top ha2 hb2 (ne_word h3)
    have k1 := lt_top ha1 hb1 k2.2
    exact (lt_top ha0 hb0 k1.2).1.trans (k1.1.trans k2.1)
def r2below_pre (_ : r2belowX) : Bool := true
def r2below_F (x : r2belowX) : OT r2below_S.Y := .ok ⟨r2below_o0, ((Nat.blt x.1.1.nat x.1.2.1.nat, ()), ())⟩
theorem r2below_ok : SummOk Try.prog 86 (r2below_S.summ r2below_pre r2below_F) := r2below_main r2below_ok0 r2below_gr r2below_c r2below_g0 r2below_h0 _ _ fun x oy _ ho => by
  rw [← ho]
  clear ho
  obtain ⟨⟨a, b, ⟨⟩⟩, ⟨⟩⟩ := x
  refine (gd_run ?_).trans ?_
  · simp only [List.all_cons, List.all_nil, Bool.and_true]
    exact decide_eq_true ⟨rfl, rfl, rfl⟩
  · rcases (Bool.eq_false_or_eq_true (eqE a b)).symm with h | h
    · have hc : r2below_c (((), (), 3, ()), (lst a, lst b, ())) = true := by
        show (!eqE a b) = true
        rw [h]
        rfl
      exact OT.run_t hc
    · have hc : r2below_c (((), (), 3, ()), (lst a, lst b, ())) = false := by
        show (!eqE a b) = false
        rw [h]
        rfl
      refine (OT.run_f hc).trans ?_
      have e : Nat.blt a.nat b.nat = false := by
        rw [eqE_iff.1 h]
        cases hb : Nat.blt b.nat b.nat
        · rfl
        · exact absurd (blt_of hb) (Nat.lt_irrefl _)
      show (OT.ok ⟨r2below_o0, ((false, ()), ())⟩ : OT r2below_S.Y).run = (OT.ok ⟨r2below_o0, ((Nat.blt a.nat b.nat, ()), ())⟩ : OT r2below_S.Y).run
      rw [e]
def r2below_summ : Summ := (r2below_S.summ r2below_pre r2below_F)
theorem r2below_known : SummOk Try.prog 86 r2below_summ := r2below_ok
theorem r2below_smono : MonoOk r2below_summ := fn_mono
def E_r2below : Env := envCons 86 r2below_summ E_r2lit
theorem E_r2below_ok : EnvOk Try.prog E_r2below := envOk_cons r2below_known E_r2lit_ok
theorem E_r2below_mono : EnvMono E_r2below := envMono_cons r2below_smono E_r2lit_mono
theorem E_r2below_any : AnyOk Try.prog te E_r2below := any_ok follows te_ok E_r2below_ok E_r2below_mono
def r2minus_S : FnSpec := ⟨[.val true .elem, .val true .elem], [], true, 0, false⟩
abbrev r2minusX : Type := ((Elem) × (Elem) × Unit) × (Unit)
def r2minus_s0 : Shape := ⟨39, [(2, .ptr 0 0 0), (3, .ptr 1 0 0), (4, .ptr 2 0 0), (5, .ptr 3 0 0), (6, .val false .u64), (7, .val false .int)], [(0, .row .u64), (1, .row .u64), (2, .row .u64), (3, .row .u64)], 0, true⟩
abbrev r2minus_s0X : Type := ((Unit) × (Unit) × (Unit) × (Unit) × (UInt64) × (Int) × Unit) × ((List (UInt64)) × (List (UInt64)) × (List (UInt64)) × (List (UInt64)) × Unit)
def r2minus_e0_0 : Shape := ⟨39, [(4, .ptr 0 0 0), (5, .ptr 1 0 0)], [(0, .row .u64), (1, .row .u64)], 0, true⟩
abbrev r2minus_e0_0X : Type := ((Unit) × (Unit) × Unit) × ((List (UInt64)) × (List (UInt64)) × Unit)
def r2minus_x0 : SE → Option Shape := xsMk [(0, r2minus_e0_0)] none
def r2minus_T0 (a6 : UInt64) (a7 : Int) (c0 : List (UInt64)) (c1 : List (UInt64)) (c2 : List (UInt64)) (c3 : List (UInt64)) : OT (Sum r2minus_s0X LEnd) :=
  let z0 : Bool := inB a7 4
  let z1 : Bool := decide (Int.toNat a7 + 0 < List.length c0)
  let z2 : Bool := decide (Int.toNat a7 + 0 < List.length c1)
  let z3 : UInt64 := List.getD c0 (Int.toNat a7 + 0) (0 : UInt64)
  let z4 : UInt64 := List.getD c1 (Int.toNat a7 + 0) (0 : UInt64)
  let z5 : Bool := inR (a7 + (1 : Int))
  let z6 : UInt64 := z3 - z4
  let z7 : List UInt64 := List.set c3 (Int.toNat a7 + 0) (z6 - a6)
  (.br (decide (a7 < (4 : Int)))
  (gd [z0, z1, z0, z2, z0, decide (Int.toNat a7 + 0 < List.length c3), z0, z1, z0, z2] (.br (decide (z3 < z4))
    (gd [z5] (.ok (.inl (((), ((), ((), ((), ((1 : UInt64), (a7 + (1 : Int), ())))))), (c0, (c1, (c2, (z7, ()))))))))
    (.br (decide (z6 < a6))
      (gd [z5] (.ok (.inl (((), ((), ((), ((), ((1 : UInt64), (a7 + (1 : Int), ())))))), (c0, (c1, (c2, (z7, ()))))))))
      (gd [z5] (.ok (.inl (((), ((), ((), ((), ((0 : UInt64), (a7 + (1 : Int), ())))))), (c0, (c1, (c2, (z7, ())))))))))))
  (.ok (.inr ⟨(.exit 0, r2minus_e0_0), (((), ((), ())), (c2, (c3, ())))⟩)))
def r2minus_U0 (s : r2minus_s0X) : OT (Sum r2minus_s0X LEnd) := r2minus_T0 (s.1.2.2.2.2.1) (s.1.2.2.2.2.2.1) (s.2.1) (s.2.2.1) (s.2.2.2.1) (s.2.2.2.2.1)
theorem r2minus_q0 (s : r2minus_s0X) (Q : Sum r2minus_s0X LEnd → Prop) : wps te E_r2below lamNil 1000 (loopOf (codeOf Try.f87) 0) (r2minus_s0.inj s) (stepK r2minus_s0 r2minus_x0 (Q : Sum r2minus_s0.T LEnd → Prop)) = (r2minus_U0 s).wpR Q := by kernel_rfl
def r2minus_f0 (g0_0 : r2minus_s0X → r2minus_e0_0X) (s : r2minus_s0X) : OT LEnd := (.ok ⟨(.exit 0, r2minus_e0_0), g0_0 s⟩)
def r2minus_o0 : OutSh := ⟨[.val true .elem], [], false⟩
def r2minus_sel : SV → Option OutSh := fun _ => some r2minus_o0
def r2minus_T (ok0 : r2minus_s0X → Bool) (g0_0 : r2minus_s0X → r2minus_e0_0X) (a0 : Elem) (a1 : Elem) : OT r2minus_S.Y :=
  let z0 : (PUnit × PUnit × PUnit × PUnit × UInt64 × Int × PUnit) × List UInt64 × List UInt64 × List UInt64 × List UInt64 × PUnit := (((), (), (), (), (0 : UInt64), (0 : Int), ()), [a0.w0, a0.w1, a0.w2, a0.w3], [a1.w0, a1.w1, a1.w2, a1.w3], [(0 : UInt64), (0 : UInt64), (0 : UInt64), (0 : UInt64)], [(0 : UInt64), (0 : UInt64), (0 : UInt64), (0 : UInt64)], ())
  let z1 := (g0_0 z0).snd
  let z2 := z1.snd.fst
  let z3 := z1.fst
  let z4 : List UInt64 := lay z3 z2 4 (0 : UInt64)
  (gd [ok0 z0, decide (4 ≤ List.length z2), decide ((4 / 1 : Nat) + 0 ≤ List.length z3), decide (4 ≤ List.length z4)] (.ok ⟨r2minus_o0, (({ w0 := List.getD z4 0 0, w1 := List.getD z4 1 0, w2 := List.getD z4 2 0, w3 := List.getD z4 3 0 }, ()), ())⟩))
theorem r2minus_q (ok0 : r2minus_s0X → Bool) (g0_0 : r2minus_s0X → r2minus_e0_0X) (x : r2minusX) (Q : r2minus_S.Y → Prop) : wpf te E_r2below (lamCons 0 (loopF r2minus_s0 0 ok0 (r2minus_f0 g0_0)) lamNil) 1000 Try.f87 (r2minus_S.inp.inj x).tm (r2minus_S.inp.inj x).hp (fnK r2minus_S r2minus_sel Q) (fun _ _ => False) = (r2minus_T ok0 g0_0 (x.1.1) (x.1.2.1)).wpR Q := by kernel_rfl
theorem r2minus_main (ok0 : r2minus_s0X → Bool) (g0_0 : r2minus_s0X → r2minus_e0_0X) (h0 : ∀ s : r2minus_s0X, ok0 s = true → ∃ m e, loopRun (r2minus_U0) m s = some e ∧ (r2minus_f0 g0_0 s).run = some e) (pre : r2minusX → Bool) (F : r2minusX → OT r2minus_S.Y) (hF : ∀ (x : r2minusX) oy, pre x = true → (F x).run = some oy → (r2minus_T ok0 g0_0 (x.1.1) (x.1.2.1)).run = some oy) : SummOk Try.prog 87 (r2minus_S.summ pre F) :=
  fn_tree te_ok E_r2below_ok E_r2below_any (f := 87) (fn := Try.f87) (c := codeOf Try.f87) (by kernel_rfl) (by kernel_rfl) (by kernel_rfl) (S := r2minus_S) (k := 0) (by kernel_rfl) (fun R hR => (lamOk_cons (c := (codeOf Try.f87)) (by kernel_rfl) (id := 0) (by kernel_rfl) (loop_ok te_ok E_r2below_ok E_r2below_any (sh := r2minus_s0) hR (xs := r2minus_x0) (xsMk_small (by kernel_rfl) (by kernel_rfl) hR) xsMk_pan lamOk_nil (n := 1000) (T := r2minus_U0) (fun s Q => r2minus_q0 s Q) (ok := ok0) (f := r2minus_f0 g0_0) h0) lamOk_nil)) (n := 1000) (sel := r2minus_sel) (fun v o h => by cases h; rfl) (pre := pre) (F := F) (T := fun x => r2minus_T ok0 g0_0 (x.1.1) (x.1.2.1)) (fun x Q => r2minus_q ok0 g0_0 x Q) hF
theorem minus_word {x y c : UInt64} (hc : c.toNat ≤ 1) : x - y - c = subC x y c := by
  have hx := x.toNat_lt
  have hy := y.toNat_lt
  unfold subC
  rw [← UInt64.toNat_inj, UInt64.toNat_sub, UInt64.toNat_sub, UInt64.toNat_ofNat']
  omega
theorem minus_k1 {x y c : UInt64} (h : x < y) : subK x y c = 1 := by
  have h := UInt64.lt_iff_toNat_lt.1 h
  rw [← UInt64.toNat_inj, subK_nat, if_pos (by omega)]
  rfl
theorem minus_k2 {x y c : UInt64} (h : ¬ x < y) (hc : x - y < c) : subK x y c = 1 := by
  have hx := x.toNat_lt
  have h : ¬ x.toNat < y.toNat := fun e => h (UInt64.lt_iff_toNat_lt.2 e)
  have hc := UInt64.lt_iff_toNat_lt.1 hc
  rw [UInt64.toNat_sub] at hc
  rw [← UInt64.toNat_inj, subK_nat, if_pos (by omega)]
  rfl
theorem minus_k3 {x y c : UInt64} (h : ¬ x < y) (hc : ¬ x - y < c) : subK x y c = 0 := by
  have hx := x.toNat_lt
  have h : ¬ x.toNat < y.toNat := fun e => h (UInt64.lt_iff_toNat_lt.2 e)
  have hc : ¬ (x - y).toNat < c.toNat := fun e => hc (UInt64.lt_iff_toNat_lt.2 e)
  rw [UInt64.toNat_sub] at hc
  rw [← UInt64.toNat_inj, subK_nat, if_neg (by omega)]
  rfl
def r2minus_ok0 (s : r2minus_s0X) : Bool := decide (s.1.2.2.2.2.1 = 0 ∧ s.1.2.2.2.2.2.1 = 0 ∧ s.2.1.length = 4 ∧ s.2.2.1.length = 4 ∧ s.2.2.2.2.1 = [0, 0, 0, 0])
def r2minus_g0 (s : r2minus_s0X) : r2minus_e0_0X := (((), (), ()), (s.2.2.2.1, (upto (subSt s.2.1 s.2.2.1) ([0, 0, 0, 0], 0) 4).1, ()))
theorem r2minus_h0 : ∀ s : r2minus_s0X, r2minus_ok0 s = true → ∃ m e, loopRun r2minus_U0 m s = some e ∧ (r2minus_f0 r2minus_g0 s).run = some e := by
  rintro ⟨⟨⟨⟩, ⟨⟩, ⟨⟩, ⟨⟩, c, i, ⟨⟩⟩, ⟨c0, c1, c2, c3, ⟨⟩⟩⟩ h
  have h' := of_decide_eq_true h
  dsimp only at h'
  obtain ⟨rfl, rfl, h0, h1, rfl⟩ := h'
  have := (loop_upto (T := r2minus_U0) (fun k s => ((((), (), (), (), s.2, (k : Int), ()), (c0, c1, c2, s.1, ())) : r2minus_s0X)) (subSt c0 c1)
    (fun s => (⟨(.exit 0, r2minus_e0_0), (((), (), ()), (c2, s.1, ()))⟩ : LEnd)) 4 ([0, 0, 0, 0], 0) (fun _ s => s.1.length = 4 ∧ s.2.toNat ≤ 1) ⟨rfl, by decide⟩ (fun k s hk hs => ⟨?_, ?_⟩) (fun s hs => ?_)).1
  · obtain ⟨m, hm⟩ := this
    exact ⟨m, _, hm, rfl⟩
  · obtain ⟨o, c⟩ := s
    dsimp only at hs
    refine (OT.run_t (decide_eq_true (by dsimp only; omega))).trans ((gd_run ?_).trans ?_)
    · simp only [Int.toNat_natCast, Nat.add_zero, h0, h1, hs.1, List.all_cons, List.all_nil, Bool.and_true, Bool.and_eq_true]
      exact ⟨inB_of (by omega), decide_eq_true (by omega), inB_of (by omega), decide_eq_true (by omega), inB_of (by omega), decide_eq_true (by omega), inB_of (by omega), decide_eq_true (by omega), inB_of (by omega), decide_eq_true (by omega)⟩
    · have hi : ∀ z, (gd [inR ((k : Int) + 1)] z : OT (Sum r2minus_s0X LEnd)).run = z.run := fun z => gd_run (by simp only [List.all_cons, List.all_nil, Bool.and_true]; exact inR_of (by omega))
      have hw := minus_word (x := c0.getD k 0) (y := c1.getD k 0) hs.2
      by_cases hx : c0.getD k 0 < c1.getD k 0
      · have hk1 := minus_k1 (c := c) hx
        refine (OT.run_t (decide_eq_true ?_)).trans ((hi _).trans ?_)
        · simp only [Int.toNat_natCast, Nat.add_zero]; exact hx
        · simp only [OT.run_ok, Int.toNat_natCast, Nat.add_zero, subSt, hw, hk1]
          rfl
      · refine (OT.run_f (decide_eq_false ?_)).trans ?_
        · simp only [Int.toNat_natCast, Nat.add_zero]; exact hx
        · by_cases hd : c0.getD k 0 - c1.getD k 0 < c
          · have hk2 := minus_k2 hx hd
            refine (OT.run_t (decide_eq_true ?_)).trans ((hi _).trans ?_)
            · simp only [Int.toNat_natCast, Nat.add_zero]; exact hd
            · simp only [OT.run_ok, Int.toNat_natCast, Nat.add_zero, subSt, hw, hk2]
              rfl
          · have hk3 := minus_k3 hx hd
            refine (OT.run_f (decide_eq_false ?_)).trans ((hi _).trans ?_)
            · simp only [Int.toNat_natCast, Nat.add_zero]; exact hd
            · simp only [OT.run_ok, Int.toNat_natCast, Nat.add_zero, subSt, hw, hk3]
              rfl
  · exact ⟨by simp only [subSt, List.length_set]; exact hs.1, subK_le⟩
  · exact OT.run_f (decide_eq_false (by dsimp only; omega))
def r2minus_pre (_ : r2minusX) : Bool := true
def r2minus_F (x : r2minusX) : OT r2minus_S.Y := .ok ⟨r2minus_o0, (((wdif x.1.1 x.1.2.1).1, ()), ())⟩
theorem r2minus_ok : SummOk Try.prog 87 (r2minus_S.summ r2minus_pre r2minus_F) := r2minus_main r2minus_ok0 r2minus_g0 r2minus_h0 _ _ fun x oy hp ho => by
  rw [← ho]
  clear ho
  obtain ⟨⟨a, b, ⟨⟩⟩, ⟨⟩⟩ := x
  obtain ⟨_, hw⟩ := wdif_words a b
  refine (gd_run ?_).trans ?_
  · simp only [List.all_cons, List.all_nil, Bool.and_true, Bool.and_eq_true]
    exact ⟨rfl, rfl, rfl, rfl⟩
  · simp only [r2minus_F, hw]
    rfl
def r2minus_summ : Summ := (r2minus_S.summ r2minus_pre r2minus_F)
theorem r2minus_known : SummOk Try.prog 87 r2minus_summ := r2minus_ok
theorem r2minus_smono : MonoOk r2minus_summ := fn_mono
def E_r2minus : Env := envCons 87 r2minus_summ E_r2below
theorem E_r2minus_ok : EnvOk Try.prog E_r2minus := envOk_cons r2minus_known E_r2below_ok
theorem E_r2minus_mono : EnvMono E_r2minus := envMono_cons r2minus_smono E_r2below_mono
theorem E_r2minus_any : AnyOk Try.prog te E_r2minus := any_ok follows te_ok E_r2minus_ok E_r2minus_mono
def r2plus_S : FnSpec := ⟨[.val true .elem, .val true .elem], [], true, 0, false⟩
abbrev r2plusX : Type := ((Elem) × (Elem) × Unit) × (Unit)
def r2plus_s0 : Shape := ⟨39, [(2, .ptr 0 0 0), (3, .ptr 1 0 0), (4, .ptr 2 0 0), (5, .ptr 3 0 0), (6, .val false .u64), (7, .val false .int)], [(0, .row .u64), (1, .row .u64), (2, .row .u64), (3, .row .u64)], 0, true⟩
abbrev r2plus_s0X : Type := ((Unit) × (Unit) × (Unit) × (Unit) × (UInt64) × (Int) × Unit) × ((List (UInt64)) × (List (UInt64)) × (List (UInt64)) × (List (UInt64)) × Unit)
def r2plus_e0_0 : Shape := ⟨39, [(4, .ptr 0 0 0), (5, .ptr 1 0 0)], [(0, .row .u64), (1, .row .u64)], 0, true⟩
abbrev r2plus_e0_0X : Type := ((Unit) × (Unit) × Unit) × ((List (UInt64)) × (List (UInt64)) × Unit)
def r2plus_x0 : SE → Option Shape := xsMk [(0, r2plus_e0_0)] none
def r2plus_T0 (a6 : UInt64) (a7 : Int) (c0 : List (UInt64)) (c1 : List (UInt64)) (c2 : List (UInt64)) (c3 : List (UInt64)) : OT (Sum r2plus_s0X LEnd) :=
  let z0 : Bool := inB a7 4
  let z1 : Bool := decide (Int.toNat a7 + 0 < List.length c0)
  let z2 : UInt64 := List.getD c0 (Int.toNat a7 + 0) (0 : UInt64)
  let z3 : UInt64 := z2 + List.getD c1 (Int.toNat a7 + 0) (0 : UInt64)
  let z4 : Bool := inR (a7 + (1 : Int))
  let z5 : List UInt64 := List.set c3 (Int.toNat a7 + 0) (z3 + a6)
  (.br (decide (a7 < (4 : Int)))
  (gd [z0, z1, z0, decide (Int.toNat a7 + 0 < List.length c1), z0, decide (Int.toNat a7 + 0 < List.length c3), z0, z1] (.br (decide (z3 < z2))
    (gd [z4] (.ok (.inl (((), ((), ((), ((), ((1 : UInt64), (a7 + (1 : Int), ())))))), (c0, (c1, (c2, (z5, ()))))))))
    (gd [z0, decide (Int.toNat a7 + 0 < List.length z5)] (.br (decide (List.getD z5 (Int.toNat a7 + 0) (0 : UInt64) < z3))
      (gd [z4] (.ok (.inl (((), ((), ((), ((), ((1 : UInt64), (a7 + (1 : Int), ())))))), (c0, (c1, (c2, (z5, ()))))))))
      (gd [z4] (.ok (.inl (((), ((), ((), ((), ((0 : UInt64), (a7 + (1 : Int), ())))))), (c0, (c1, (c2, (z5, ()))))))))))))
  (.ok (.inr ⟨(.exit 0, r2plus_e0_0), (((), ((), ())), (c2, (c3, ())))⟩)))
def r2plus_U0 (s : r2plus_s0X) : OT (Sum r2plus_s0X LEnd) := r2plus_T0 (s.1.2.2.2.2.1) (s.1.2.2.2.2.2.1) (s.2.1) (s.2.2.1) (s.2.2.2.1) (s.2.2.2.2.1)
theorem r2plus_q0 (s : r2plus_s0X) (Q : Sum r2plus_s0X LEnd → Prop) : wps te E_r2minus lamNil 1000 (loopOf (codeOf Try.f76) 0) (r2plus_s0.inj s) (stepK r2plus_s0 r2plus_x0 (Q : Sum r2plus_s0.T LEnd → Prop)) = (r2plus_U0 s).wpR Q := by kernel_rfl
def r2plus_f0 (g0_0 : r2plus_s0X → r2plus_e0_0X) (s : r2plus_s0X) : OT LEnd := (.ok ⟨(.exit 0, r2plus_e0_0), g0_0 s⟩)
def r2plus_o0 : OutSh := ⟨[.val true .elem], [], false⟩
def r2plus_sel : SV → Option OutSh := fun _ => some r2plus_o0
def r2plus_T (ok0 : r2plus_s0X → Bool) (g0_0 : r2plus_s0X → r2plus_e0_0X) (a0 : Elem) (a1 : Elem) : OT r2plus_S.Y :=
  let z0 : (PUnit × PUnit × PUnit × PUnit × UInt64 × Int × PUnit) × List UInt64 × List UInt64 × List UInt64 × List UInt64 × PUnit := (((), (), (), (), (0 : UInt64), (0 : Int), ()), [a0.w0, a0.w1, a0.w2, a0.w3], [a1.w0, a1.w1, a1.w2, a1.w3], [(0 : UInt64), (0 : UInt64), (0 : UInt64), (0 : UInt64)], [(0 : UInt64), (0 : UInt64), (0 : UInt64), (0 : UInt64)], ())
  let z1 := (g0_0 z0).snd
  let z2 := z1.snd.fst
  let z3 := z1.fst
  let z4 : List UInt64 := lay z3 z2 4 (0 : UInt64)
  (gd [ok0 z0, decide (4 ≤ List.length z2), decide ((4 / 1 : Nat) + 0 ≤ List.length z3), decide (4 ≤ List.length z4)] (.ok ⟨r2plus_o0, (({ w0 := List.getD z4 0 0, w1 := List.getD z4 1 0, w2 := List.getD z4 2 0, w3 := List.getD z4 3 0 }, ()), ())⟩))
theorem r2plus_q (ok0 : r2plus_s0X → Bool) (g0_0 : r2plus_s0X → r2plus_e0_0X) (x : r2plusX) (Q : r2plus_S.Y → Prop) : wpf te E_r2minus (lamCons 0 (loopF r2plus_s0 0 ok0 (r2plus_f0 g0_0)) lamNil) 1000 Try.f76 (r2plus_S.inp.inj x).tm (r2plus_S.inp.inj x).hp (fnK r2plus_S r2plus_sel Q) (fun _ _ => False) = (r2plus_T ok0 g0_0 (x.1.1) (x.1.2.1)).wpR Q := by kernel_rfl
theorem r2plus_main (ok0 : r2plus_s0X → Bool) (g0_0 : r2plus_s0X → r2plus_e0_0X) (h0 : ∀ s : r2plus_s0X, ok0 s = true → ∃ m e, loopRun (r2plus_U0) m s = some e ∧ (r2plus_f0 g0_0 s).run = some e) (pre : r2plusX → Bool) (F : r2plusX → OT r2plus_S.Y) (hF : ∀ (x : r2plusX) oy, pre x = true → (F x).run = some oy → (r2plus_T ok0 g0_0 (x.1.1) (x.1.2.1)).run = some oy) : SummOk Try.prog 76 (r2plus_S.summ pre F) :=
  fn_tree te_ok E_r2minus_ok E_r2minus_any (f := 76) (fn := Try.f76) (c := codeOf Try.f76) (by kernel_rfl) (by kernel_rfl) (by kernel_rfl) (S := r2plus_S) (k := 0) (by kernel_rfl) (fun R hR => (lamOk_cons (c := (codeOf Try.f76)) (by kernel_rfl) (id := 0) (by kernel_rfl) (loop_ok te_ok E_r2minus_ok E_r2minus_any (sh := r2plus_s0) hR (xs := r2plus_x0) (xsMk_small (by kernel_rfl) (by kernel_rfl) hR) xsMk_pan lamOk_nil (n := 1000) (T := r2plus_U0) (fun s Q => r2plus_q0 s Q) (ok := ok0) (f := r2plus_f0 g0_0) h0) lamOk_nil)) (n := 1000) (sel := r2plus_sel) (fun v o h => by cases h; rfl) (pre := pre) (F := F) (T := fun x => r2plus_T ok0 g0_0 (x.1.1) (x.1.2.1)) (fun x Q => r2plus_q ok0 g0_0 x Q) hF
theorem plus_word {x y c : UInt64} : x + y + c = addC x y c := by
  have hx := x.toNat_lt
  have hy := y.toNat_lt
  unfold addC
  rw [← UInt64.toNat_inj, UInt64.toNat_add, UInt64.toNat_add, UInt64.toNat_ofNat']
  omega
theorem addK_nat {x y c : UInt64} (hc : c.toNat ≤ 1) : (addK x y c).toNat = (x.toNat + y.toNat + c.toNat) / 18446744073709551616 := by
  have hx := x.toNat_lt
  have hy := y.toNat_lt
  unfold addK
  rw [UInt64.toNat_ofNat']
  omega
theorem plus_k1 {x y c : UInt64} (hc : c.toNat ≤ 1) (h : x + y < x) : addK x y c = 1 := by
  have hx := x.toNat_lt
  have hy := y.toNat_lt
  have h := UInt64.lt_iff_toNat_lt.1 h
  rw [UInt64.toNat_add] at h
  rw [← UInt64.toNat_inj, addK_nat hc, show (1 : UInt64).toNat = 1 from rfl]
  omega
theorem plus_k2 {x y c : UInt64} (hc : c.toNat ≤ 1) (h : ¬ x + y < x) (h2 : x + y + c < x + y) : addK x y c = 1 := by
  have hx := x.toNat_lt
  have hy := y.toNat_lt
  have h : ¬ (x + y).toNat < x.toNat := fun e => h (UInt64.lt_iff_toNat_lt.2 e)
  have h2 := UInt64.lt_iff_toNat_lt.1 h2
  rw [UInt64.toNat_add] at h
  rw [UInt64.toNat_add, UInt64.toNat_add] at h2
  rw [← UInt64.toNat_inj, addK_nat hc, show (1 : UInt64).toNat = 1 from rfl]
  omega
theorem plus_k3 {x y c : UInt64} (hc : c.toNat ≤ 1) (h : ¬ x + y < x) (h2 : ¬ x + y + c < x + y) : addK x y c = 0 := by
  have hx := x.toNat_lt
  have hy := y.toNat_lt
  have h : ¬ (x + y).toNat < x.toNat := fun e => h (UInt64.lt_iff_toNat_lt.2 e)
  have h2 : ¬ (x + y + c).toNat < (x + y).toNat := fun e => h2 (UInt64.lt_iff_toNat_lt.2 e)
  rw [UInt64.toNat_add] at h
  rw [UInt64.toNat_add, UInt64.toNat_add] at h2
  rw [← UInt64.toNat_inj, addK_nat hc, show (0 : UInt64).toNat = 0 from rfl]
  omega
def r2plus_ok0 (s : r2plus_s0X) : Bool := decide (s.1.2.2.2.2.1 = 0 ∧ s.1.2.2.2.2.2.1 = 0 ∧ s.2.1.length = 4 ∧ s.2.2.1.length = 4 ∧ s.2.2.2.2.1 = [0, 0, 0, 0])
def r2plus_g0 (s : r2plus_s0X) : r2plus_e0_0X := (((), (), ()), (s.2.2.2.1, (upto (addSt s.2.1 s.2.2.1) ([0, 0, 0, 0], 0) 4).1, ()))
theorem r2plus_h0 : ∀ s : r2plus_s0X, r2plus_ok0 s = true → ∃ m e, loopRun r2plus_U0 m s = some e ∧ (r2plus_f0 r2plus_g0 s).run = some e := by
  rintro ⟨⟨⟨⟩, ⟨⟩, ⟨⟩, ⟨⟩, c, i, ⟨⟩⟩, ⟨c0, c1, c2, c3, ⟨⟩⟩⟩ h
  have h' := of_decide_eq_true h
  dsimp only at h'
  obtain ⟨rfl, rfl, h0, h1, rfl⟩ := h'
  have := (loop_upto (T := r2plus_U0) (fun k s => ((((), (), (), (), s.2, (k : Int), ()), (c0, c1, c2, s.1, ())) : r2plus_s0X)) (addSt c0 c1)
    (fun s => (⟨(.exit 0, r2plus_e0_0), (((), (), ()), (c2, s.1, ()))⟩ : LEnd)) 4 ([0, 0, 0, 0], 0) (fun _ s => s.1.length = 4 ∧ s.2.toNat ≤ 1) ⟨rfl, by decide⟩ (fun k s hk hs => ⟨?_, ?_⟩) (fun s hs => ?_)).1
  · obtain ⟨m, hm⟩ := this
    exact ⟨m, _, hm, rfl⟩
  · obtain ⟨o, c⟩ := s
    dsimp only at hs
    refine (OT.run_t (decide_eq_true (by dsimp only; omega))).trans ((gd_run ?_).trans ?_)
    · simp only [Int.toNat_natCast, Nat.add_zero, h0, h1, hs.1, List.all_cons, List.all_nil, Bool.and_true, Bool.and_eq_true]
      exact ⟨inB_of (by omega), decide_eq_true (by omega), inB_of (by omega), decide_eq_true (by omega), inB_of (by omega), decide_eq_true (by omega), inB_of (by omega), decide_eq_true (by omega)⟩
    · have hi : ∀ z, (gd [inR ((k : Int) + 1)] z : OT (Sum r2plus_s0X LEnd)).run = z.run := fun z => gd_run (by simp only [List.all_cons, List.all_nil, Bool.and_true]; exact inR_of (by omega))
      have hw := plus_word (x := c0.getD k 0) (y := c1.getD k 0) (c := c)
      by_cases hx : c0.getD k 0 + c1.getD k 0 < c0.getD k 0
      · have hk1 := plus_k1 hs.2 hx
        refine (OT.run_t (decide_eq_true ?_)).trans ((hi _).trans ?_)
        · simp only [Int.toNat_natCast, Nat.add_zero]; exact hx
        · simp only [OT.run_ok, Int.toNat_natCast, Nat.add_zero, addSt, hw, hk1]
          rfl
      · have hs2 : ∀ v, (o.set k v).getD k 0 = v := fun v => by
          rw [List.getD_eq_getElem?_getD, List.getElem?_set_self (by omega)]
          rfl
        refine (OT.run_f (decide_eq_false ?_)).trans ((gd_run ?_).trans ?_)
        · simp only [Int.toNat_natCast, Nat.add_zero]; exact hx
        · simp only [Int.toNat_natCast, Nat.add_zero, List.length_set, hs.1, List.all_cons, List.all_nil, Bool.and_true, Bool.and_eq_true]
          exact ⟨inB_of (by omega), decide_eq_true (by omega)⟩
        · by_cases hd : c0.getD k 0 + c1.getD k 0 + c < c0.getD k 0 + c1.getD k 0
          · have hk2 := plus_k2 hs.2 hx hd
            refine (OT.run_t (decide_eq_true ?_)).trans ((hi _).trans ?_)
            · simp only [Int.toNat_natCast, Nat.add_zero, hs2]; exact hd
            · simp only [OT.run_ok, Int.toNat_natCast, Nat.add_zero, addSt, hw, hk2]
              rfl
          · have hk3 := plus_k3 hs.2 hx hd
            refine (OT.run_f (decide_eq_false ?_)).trans ((hi _).trans ?_)
            · simp only [Int.toNat_natCast, Nat.add_zero, hs2]; exact hd
            · simp only [OT.run_ok, Int.toNat_natCast, Nat.add_zero, addSt, hw, hk3]
              rfl
  · exact ⟨by simp only [addSt, List.length_set]; exact hs.1, addK_le hs.2⟩
  · exact OT.run_f (decide_eq_false (by dsimp only; omega))
def r2plus_pre (_ : r2plusX) : Bool := true
def r2plus_F (x : r2plusX) : OT r2plus_S.Y := .ok ⟨r2plus_o0, (((wsum x.1.1 x.1.2.1).1, ()), ())⟩
theorem r2plus_ok : SummOk Try.prog 76 (r2plus_S.summ r2plus_pre r2plus_F) := r2plus_main r2plus_ok0 r2plus_g0 r2plus_h0 _ _ fun x oy hp ho => by
  rw [← ho]
  clear ho
  obtain ⟨⟨a, b, ⟨⟩⟩, ⟨⟩⟩ := x
  obtain ⟨_, hw⟩ := wsum_words a b
  refine (gd_run ?_).trans ?_
  · simp only [List.all_cons, List.all_nil, Bool.and_true, Bool.and_eq_true]
    exact ⟨rfl, rfl, rfl, rfl⟩
  · simp only [r2plus_F, hw]
    rfl
def r2plus_summ : Summ := (r2plus_S.summ r2plus_pre r2plus_F)
theorem r2plus_known : SummOk Try.prog 76 r2plus_summ := r2plus_ok
theorem r2plus_smono : MonoOk r2plus_summ := fn_mono
def E_r2plus : Env := envCons 76 r2plus_summ E_r2minus
theorem E_r2plus_ok : EnvOk Try.prog E_r2plus := envOk_cons r2plus_known E_r2minus_ok
theorem E_r2plus_mono : EnvMono E_r2plus := envMono_cons r2plus_smono E_r2minus_mono
theorem E_r2plus_any : AnyOk Try.prog te E_r2plus := any_ok follows te_ok E_r2plus_ok E_r2plus_mono
end Go.Proofs.Ytkedomfjjahjnaa
