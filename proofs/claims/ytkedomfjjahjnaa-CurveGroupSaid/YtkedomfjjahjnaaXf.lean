/- A symbolic machine for Go code over plain data, and functions of the program as it shows them. No statement is proved in this file. -/
import Derived.KernelRfl
import Derived.Test.YtkedomfjjahjnaaXe
set_option linter.unusedSimpArgs false
set_option linter.unusedVariables false
set_option linter.unusedSectionVars false
/- The function sigil/field.Decode: what it makes of its arguments. No statement of a seat is proved here. -/
namespace Go.Proofs.Ytkedomfjjahjnaa
open Sx Go
set_option maxRecDepth 100000

def fdecode_S : FnSpec := ⟨[.val false .int, .val false (.list .u8)], [], true, 0, false⟩

abbrev fdecodeX : Type := ((Int) × (List (UInt8)) × Unit) × (Unit)

def fdecode_o0 : OutSh := ⟨[.val true .elem, .val false .int], [], false⟩

def fdecode_sel : SV → Option OutSh := fun _ => some fdecode_o0

def fdecode_T (a0 : Int) (a1 : List (UInt8)) : OT fdecode_S.Y :=
  let z0 : Elem := { w0 := (0 : UInt64), w1 := (0 : UInt64), w2 := (0 : UInt64), w3 := (0 : UInt64) }
  let z1 : Bool := fnumber_pre ((a1, ()), ())
  let z2 : Elem := numB a1
  (.br (sortOk a0)
  (.br (!(↑(List.length a1) : Int) == (32 : Int))
    (.ok ⟨fdecode_o0, ((z0, ((21 : Int), ())), ())⟩)
    (gd [z1] (.br (!Nat.blt (Elem.nat z2) (Elem.nat (numOf (Int.toNat a0)).fst))
      (.ok ⟨fdecode_o0, ((z0, ((21 : Int), ())), ())⟩)
      (gd [z1] (.ok ⟨fdecode_o0, ((z2, ((0 : Int), ())), ())⟩)))))
  (.ok ⟨fdecode_o0, ((z0, ((20 : Int), ())), ())⟩))

theorem fdecode_q (x : fdecodeX) (Q : fdecode_S.Y → Prop) : wpf te E_fnumber lamNil 1000 Try.f68 (fdecode_S.inp.inj x).tm (fdecode_S.inp.inj x).hp (fnK fdecode_S fdecode_sel Q) (fun _ _ => False) = (fdecode_T (x.1.1) (x.1.2.1)).wpR Q := by kernel_rfl

theorem fdecode_main (pre : fdecodeX → Bool) (F : fdecodeX → OT fdecode_S.Y) (hF : ∀ (x : fdecodeX) oy, pre x = true → (F x).run = some oy → (fdecode_T (x.1.1) (x.1.2.1)).run = some oy) : SummOk Try.prog 68 (fdecode_S.summ pre F) :=
  fn_tree te_ok E_fnumber_ok E_fnumber_any (f := 68) (fn := Try.f68) (c := codeOf Try.f68) (by kernel_rfl) (by kernel_rfl) (by kernel_rfl) (S := fdecode_S) (k := 0) (by kernel_rfl) (fun R hR => lamOk_nil) (n := 1000) (sel := fdecode_sel) (fun v o h => by cases h; rfl) (pre := pre) (F := F) (T := fun x => fdecode_T (x.1.1) (x.1.2.1)) (fun x Q => fdecode_q x Q) hF

def len32 (b : List UInt8) : Bool := (b.length : Int) == 32
theorem len32_iff {b : List UInt8} : len32 b = true ↔ b.length = 32 := by
  unfold len32
  rw [beq_iff_eq]
  omega
def fdecode_pre (_ : fdecodeX) : Bool := true
def fdecode_F (x : fdecodeX) : OT fdecode_S.Y := .br (sortOk x.1.1) (.br (len32 x.1.2.1) (.br (Nat.blt (numB x.1.2.1).nat (pS x.1.1)) (.ok ⟨fdecode_o0, ((numB x.1.2.1, ((0 : Int), ())), ())⟩) (.ok ⟨fdecode_o0, ((⟨0, 0, 0, 0⟩, ((21 : Int), ())), ())⟩))
  (.ok ⟨fdecode_o0, ((⟨0, 0, 0, 0⟩, ((21 : Int), ())), ())⟩)) (.ok ⟨fdecode_o0, ((⟨0, 0, 0, 0⟩, ((20 : Int), ())), ())⟩)
theorem fdecode_T_of {s : Int} {b : List UInt8} {N : Elem} (hN : numB b = N) : (fdecode_T s b).run = (OT.br (sortOk s) (.br (len32 b) (.br (Nat.blt N.nat (pS s)) (.ok ⟨fdecode_o0, ((N, ((0 : Int), ())), ())⟩) (.ok ⟨fdecode_o0, ((⟨0, 0, 0, 0⟩, ((21 : Int), ())), ())⟩))
  (.ok ⟨fdecode_o0, ((⟨0, 0, 0, 0⟩, ((21 : Int), ())), ())⟩)) (.ok ⟨fdecode_o0, ((⟨0, 0, 0, 0⟩, ((20 : Int), ())), ())⟩) : OT fdecode_S.Y).run := by
  unfold fdecode_T
  simp only [hN]
  rcases (Bool.eq_false_or_eq_true (sortOk s)).symm with hs | hs
  · exact (OT.run_f hs).trans (OT.run_f (b := sortOk s) hs).symm
  · refine (OT.run_t hs).trans (Eq.trans ?_ (OT.run_t (b := sortOk s) hs).symm)
    rcases (Bool.eq_false_or_eq_true (len32 b)).symm with hl | hl
    · exact (OT.run_t (b := !len32 b) (by rw [hl]; rfl)).trans (OT.run_f (b := len32 b) hl).symm
    · have hp : fnumber_pre ((b, ()), ()) = true := decide_eq_true (len32_iff.1 hl)
      refine (OT.run_f (b := !len32 b) (by rw [hl]; rfl)).trans (Eq.trans ?_ (OT.run_t (b := len32 b) hl).symm)
      rw [hp]
      refine (gd_run rfl).trans ?_
      rcases (Bool.eq_false_or_eq_true (Nat.blt N.nat (pS s))).symm with h | h
      · exact (OT.run_t (b := !Nat.blt N.nat (pS s)) (by rw [h]; rfl)).trans (OT.run_f (b := Nat.blt N.nat (pS s)) h).symm
      · exact (OT.run_f (b := !Nat.blt N.nat (pS s)) (by rw [h]; rfl)).trans ((gd_run rfl).trans (OT.run_t (b := Nat.blt N.nat (pS s)) h).symm)
theorem fdecode_ok : SummOk Try.prog 68 (fdecode_S.summ fdecode_pre fdecode_F) := fdecode_main _ _ fun x oy hp ho => by
  rw [← ho]
  clear ho
  obtain ⟨⟨s, b, ⟨⟩⟩, ⟨⟩⟩ := x
  exact fdecode_T_of rfl

def fdecode_summ : Summ := (fdecode_S.summ fdecode_pre fdecode_F)
theorem fdecode_known : SummOk Try.prog 68 fdecode_summ := fdecode_ok
theorem fdecode_smono : MonoOk fdecode_summ := fn_mono

def E_fdecode : Env := envCons 68 fdecode_summ E_fnumber
theorem E_fdecode_ok : EnvOk Try.prog E_fdecode := envOk_cons fdecode_known E_fnumber_ok
theorem E_fdecode_mono : EnvMono E_fdecode := envMono_cons fdecode_smono E_fnumber_mono
theorem E_fdecode_any : AnyOk Try.prog te E_fdecode := any_ok follows te_ok E_fdecode_ok E_fdecode_mono

end Go.Proofs.Ytkedomfjjahjnaa

/- The function sigil/curve.Decode: what it makes of its arguments. No statement of a seat is proved here. -/
namespace Go.Proofs.Ytkedomfjjahjnaa
open Sx Go
set_option maxRecDepth 100000

def cdecode_S : FnSpec := ⟨[.val false .int, .val false (.list .u8)], [], true, 0, false⟩

abbrev cdecodeX : Type := ((Int) × (List (UInt8)) × Unit) × (Unit)

def cdecode_o0 : OutSh := ⟨[.val true (.prod .elem (.prod .elem .bool)), .val false .int], [], false⟩

def cdecode_sel : SV → Option OutSh := fun _ => some cdecode_o0

def cdecode_T (a0 : Int) (a1 : List (UInt8)) : OT cdecode_S.Y :=
  let z0 : Bool := sortOk a0
  let z1 : Nat := List.length a1
  let z2 : Elem := { w0 := (0 : UInt64), w1 := (0 : UInt64), w2 := (0 : UInt64), w3 := (0 : UInt64) }
  let z3 : Elem × Elem × Bool := (z2, z2, false)
  let z4 : Bool := inB (31 : Int) z1
  let z5 : Bool := decide ((31 : Nat) < z1)
  let z6 : UInt8 := List.getD a1 (31 : Nat) (0 : UInt8)
  let z7 : List UInt8 := List.set a1 (31 : Nat) (z6 &&& (127 : UInt8))
  let z8 : Elem := numB z7
  let z9 : Bool := ccube_pre ((a0, z8, bS a0, ()), ())
  (.br (z0)
  (.br (!(↑z1 : Int) == (32 : Int))
    (.ok ⟨cdecode_o0, ((z3, ((41 : Int), ())), ())⟩)
    (gd [bclone_pre ((a1, ()), ()), z4, z5, z4, z5, z4, z5] (.br (z0)
      (.br (len32 z7)
        (.br (Nat.blt (Elem.nat z8) (pS a0))
          (.br (z8.w0 == (0 : UInt64) && (z8.w1 == (0 : UInt64) && (z8.w2 == (0 : UInt64) && (z8.w3 == (0 : UInt64) && true))))
            (.br (z6 >>> (7 : UInt8) == (0 : UInt8))
              (.ok ⟨cdecode_o0, (((z2, z2, true), ((0 : Int), ())), ())⟩)
              (gd [z9] .fail))
            (gd [z9] .fail))
          (.ok ⟨cdecode_o0, ((z3, ((41 : Int), ())), ())⟩))
        (.ok ⟨cdecode_o0, ((z3, ((41 : Int), ())), ())⟩))
      (.ok ⟨cdecode_o0, ((z3, ((41 : Int), ())), ())⟩))))
  (.ok ⟨cdecode_o0, ((z3, ((40 : Int), ())), ())⟩))

theorem cdecode_q (x : cdecodeX) (Q : cdecode_S.Y → Prop) : wpf te E_fdecode lamNil 1000 Try.f35 (cdecode_S.inp.inj x).tm (cdecode_S.inp.inj x).hp (fnK cdecode_S cdecode_sel Q) (fun _ _ => False) = (cdecode_T (x.1.1) (x.1.2.1)).wpR Q := by kernel_rfl

theorem cdecode_main (pre : cdecodeX → Bool) (F : cdecodeX → OT cdecode_S.Y) (hF : ∀ (x : cdecodeX) oy, pre x = true → (F x).run = some oy → (cdecode_T (x.1.1) (x.1.2.1)).run = some oy) : SummOk Try.prog 35 (cdecode_S.summ pre F) :=
  fn_tree te_ok E_fdecode_ok E_fdecode_any (f := 35) (fn := Try.f35) (c := codeOf Try.f35) (by kernel_rfl) (by kernel_rfl) (by kernel_rfl) (S := cdecode_S) (k := 0) (by kernel_rfl) (fun R hR => lamOk_nil) (n := 1000) (sel := cdecode_sel) (fun v o h => by cases h; rfl) (pre := pre) (F := F) (T := fun x => cdecode_T (x.1.1) (x.1.2.1)) (fun x Q => cdecode_q x Q) hF

-- so far of 32 noughts alone
def cdecode_pre (x : cdecodeX) : Bool := decide (x.1.1 = 0 ∧ x.1.2.1 = List.replicate 32 0)
def cdecode_F (_ : cdecodeX) : OT cdecode_S.Y := .ok ⟨cdecode_o0, ((inftyP, ((0 : Int), ())), ())⟩
theorem cdecode_ok : SummOk Try.prog 35 (cdecode_S.summ cdecode_pre cdecode_F) := cdecode_main _ _ fun x oy hp ho => by
  rw [← ho]
  clear ho
  obtain ⟨⟨s, b, ⟨⟩⟩, ⟨⟩⟩ := x
  have h := of_decide_eq_true hp
  dsimp only at h
  obtain ⟨rfl, rfl⟩ := h
  show (cdecode_T 0 (List.replicate 32 0)).run = some ⟨cdecode_o0, ((inftyP, ((0 : Int), ())), ())⟩
  kernel_rfl

def cdecode_summ : Summ := (cdecode_S.summ cdecode_pre cdecode_F)
theorem cdecode_known : SummOk Try.prog 35 cdecode_summ := cdecode_ok
theorem cdecode_smono : MonoOk cdecode_summ := fn_mono

def E_cdecode : Env := envCons 35 cdecode_summ E_fdecode
theorem E_cdecode_ok : EnvOk Try.prog E_cdecode := envOk_cons cdecode_known E_fdecode_ok
theorem E_cdecode_mono : EnvMono E_cdecode := envMono_cons cdecode_smono E_fdecode_mono
theorem E_cdecode_any : AnyOk Try.prog te E_cdecode := any_ok follows te_ok E_cdecode_ok E_cdecode_mono

end Go.Proofs.Ytkedomfjjahjnaa

/- The function sigil/sigillaw04.alive: what it makes of its arguments. No statement of a seat is proved here. -/
namespace Go.Proofs.Ytkedomfjjahjnaa
open Sx Go
set_option maxRecDepth 100000

def c4alive_S : FnSpec := ⟨[], [], true, 0, false⟩

abbrev c4aliveX : Type := (Unit) × (Unit)

def c4alive_o0 : OutSh := ⟨[.val false .bool], [], false⟩

def c4alive_sel : SV → Option OutSh := fun _ => some c4alive_o0

def c4alive_T : OT c4alive_S.Y :=
  (.ok ⟨c4alive_o0, ((true, ()), ())⟩)

theorem c4alive_q (x : c4aliveX) (Q : c4alive_S.Y → Prop) : wpf te E_cdecode lamNil 1000 Try.f14 (c4alive_S.inp.inj x).tm (c4alive_S.inp.inj x).hp (fnK c4alive_S c4alive_sel Q) (fun _ _ => False) = (c4alive_T).wpR Q := by kernel_rfl

theorem c4alive_main (pre : c4aliveX → Bool) (F : c4aliveX → OT c4alive_S.Y) (hF : ∀ (x : c4aliveX) oy, pre x = true → (F x).run = some oy → (c4alive_T).run = some oy) : SummOk Try.prog 14 (c4alive_S.summ pre F) :=
  fn_tree te_ok E_cdecode_ok E_cdecode_any (f := 14) (fn := Try.f14) (c := codeOf Try.f14) (by kernel_rfl) (by kernel_rfl) (by kernel_rfl) (S := c4alive_S) (k := 0) (by kernel_rfl) (fun R hR => lamOk_nil) (n := 1000) (sel := c4alive_sel) (fun v o h => by cases h; rfl) (pre := pre) (F := F) (T := fun x => c4alive_T) (fun x Q => c4alive_q x Q) hF

def c4alive_pre (_ : c4aliveX) : Bool := true
def c4alive_F (_ : c4aliveX) : OT c4alive_S.Y := .ok ⟨c4alive_o0, ((true, ()), ())⟩
theorem c4alive_ok : SummOk Try.prog 14 (c4alive_S.summ c4alive_pre c4alive_F) := c4alive_main _ _ fun x oy hp ho => by
  rw [← ho]
  clear ho
  show c4alive_T.run = some ⟨c4alive_o0, ((true, ()), ())⟩
  kernel_rfl

def c4alive_summ : Summ := (c4alive_S.summ c4alive_pre c4alive_F)
theorem c4alive_known : SummOk Try.prog 14 c4alive_summ := c4alive_ok
theorem c4alive_smono : MonoOk c4alive_summ := fn_mono

def E_c4alive : Env := envCons 14 c4alive_summ E_cdecode
theorem E_c4alive_ok : EnvOk Try.prog E_c4alive := envOk_cons c4alive_known E_cdecode_ok
theorem E_c4alive_mono : EnvMono E_c4alive := envMono_cons c4alive_smono E_cdecode_mono
theorem E_c4alive_any : AnyOk Try.prog te E_c4alive := any_ok follows te_ok E_c4alive_ok E_c4alive_mono

end Go.Proofs.Ytkedomfjjahjnaa

/- Plain laws of numbers: lists without doubles, primes, Fermat's and Pocklington's. No statement of a seat is proved here. -/
namespace Go.Proofs.Ytkedomfjjahjnaa

theorem perm_of_sub {α : Type} [BEq α] [LawfulBEq α] : ∀ {l1 l2 : List α}, l1.Nodup → (∀ x ∈ l1, x ∈ l2) → l2.length ≤ l1.length → l1.Perm l2
  | [], l2, _, _, h => by
    have : l2 = [] := List.length_eq_zero_iff.1 (Nat.le_zero.1 h)
    rw [this]
  | a :: t, l2, hn, hs, hl => by
    have ha : a ∈ l2 := hs a (List.mem_cons_self ..)
    have hp : l2.Perm (a :: l2.erase a) := List.perm_cons_erase ha
    rw [List.nodup_cons] at hn
    have hl2 := List.length_erase_of_mem ha
    have hpos : 0 < l2.length := List.length_pos_of_mem ha
    have ih : t.Perm (l2.erase a) := perm_of_sub hn.2 (fun x hx => by
      have hne : x ≠ a := fun e => hn.1 (e ▸ hx)
      exact (List.mem_erase_of_ne hne).2 (hs x (List.mem_cons_of_mem _ hx))) (by rw [List.length_cons] at hl; omega)
    exact (ih.cons a).trans hp.symm

theorem length_of_sub {α : Type} [BEq α] [LawfulBEq α] : ∀ {l1 l2 : List α}, l1.Nodup → (∀ x ∈ l1, x ∈ l2) → l1.length ≤ l2.length
  | [], l2, _, _ => Nat.zero_le _
  | a :: t, l2, hn, hs => by
    have ha : a ∈ l2 := hs a (List.mem_cons_self ..)
    rw [List.nodup_cons] at hn
    have hl2 := List.length_erase_of_mem ha
    have hpos : 0 < l2.length := List.length_pos_of_mem ha
    have ih := length_of_sub (l2 := l2.erase a) hn.2 (fun x hx => by
      have hne : x ≠ a := fun e => hn.1 (e ▸ hx)
      exact (List.mem_erase_of_ne hne).2 (hs x (List.mem_cons_of_mem _ hx)))
    rw [List.length_cons]
    omega

def Pr (p : Nat) : Prop := 2 ≤ p ∧ ∀ d, d ∣ p → d = 1 ∨ d = p

theorem Pr.pos {p : Nat} (h : Pr p) : 0 < p := by have := h.1; omega

theorem Pr.cop {p a : Nat} (h : Pr p) (ha : ¬ p ∣ a) : Nat.Coprime p a := by
  rcases h.2 (Nat.gcd p a) (Nat.gcd_dvd_left ..) with e | e
  · exact e
  · exact absurd (e ▸ Nat.gcd_dvd_right p a) ha

theorem Pr.euclid {p a b : Nat} (h : Pr p) (hd : p ∣ a * b) : p ∣ a ∨ p ∣ b := by
  by_cases ha : p ∣ a
  · exact .inl ha
  · exact .inr ((h.cop ha).dvd_of_dvd_mul_left hd)

def prodL : List Nat → Nat
  | [] => 1
  | a :: l => a * prodL l

theorem prodL_perm {l1 l2 : List Nat} (h : l1.Perm l2) : prodL l1 = prodL l2 := by
  induction h with
  | nil => rfl
  | cons x _ ih => simp only [prodL, ih]
  | swap x y l => simp only [prodL]; rw [← Nat.mul_assoc, ← Nat.mul_assoc, Nat.mul_comm x y]
  | trans _ _ a b => exact a.trans b

theorem prodL_map (p a : Nat) : ∀ l : List Nat, prodL (l.map fun x => a * x % p) % p = a ^ l.length * prodL l % p
  | [] => by simp [prodL]
  | x :: l => by
    have ih := prodL_map p a l
    simp only [List.map_cons, prodL, List.length_cons]
    rw [Nat.mul_mod, Nat.mod_mod, ih, ← Nat.mul_mod, Nat.pow_succ]
    congr 1
    rw [Nat.mul_assoc, Nat.mul_assoc, Nat.mul_left_comm x]
    rw [Nat.mul_left_comm a]

theorem prodL_not {p : Nat} (h : Pr p) : ∀ l : List Nat, (∀ x ∈ l, ¬ p ∣ x) → ¬ p ∣ prodL l
  | [], _, hd => by
    have := Nat.le_of_dvd (by decide) hd
    have := h.1
    simp only [prodL] at *
    omega
  | x :: l, hx, hd => by
    rcases h.euclid hd with h1 | h1
    · exact hx x (List.mem_cons_self ..) h1
    · exact prodL_not h l (fun y hy => hx y (List.mem_cons_of_mem _ hy)) h1

theorem mod_eq_dvd {p a b : Nat} (hab : a ≤ b) (h : a % p = b % p) : p ∣ b - a := by
  have h1 := Nat.div_add_mod a p
  have h2 := Nat.div_add_mod b p
  refine ⟨b / p - a / p, ?_⟩
  rw [Nat.mul_sub]
  omega

theorem not_dvd_small {p x : Nat} (h0 : 0 < x) (h1 : x < p) : ¬ p ∣ x := fun h => by
  have := Nat.le_of_dvd h0 h
  omega

theorem inj_mod {p a : Nat} (h : Pr p) (ha : ¬ p ∣ a) {x y : Nat} (hx : x < p) (hy : y < p) (e : a * x % p = a * y % p) : x = y := by
  have aux : ∀ {x y : Nat}, x < p → y < p → x ≤ y → a * x % p = a * y % p → x = y := fun {x y} hx hy hxy e => by
    have hd := mod_eq_dvd (Nat.mul_le_mul_left a hxy) e
    rw [← Nat.mul_sub] at hd
    rcases h.euclid hd with h1 | h1
    · exact absurd h1 ha
    · by_cases h0 : y - x = 0
      · omega
      · exact absurd h1 (not_dvd_small (by omega) (by omega))
  rcases Nat.le_total x y with hxy | hxy
  · exact aux hx hy hxy e
  · exact (aux hy hx hxy e.symm).symm

theorem nodup_map_of {α β : Type} {f : α → β} : ∀ {l : List α}, l.Nodup → (∀ x ∈ l, ∀ y ∈ l, f x = f y → x = y) → (l.map f).Nodup
  | [], _, _ => List.nodup_nil
  | a :: l, hn, hi => by
    rw [List.nodup_cons] at hn
    rw [List.map_cons, List.nodup_cons]
    refine ⟨fun hm => ?_, nodup_map_of hn.2 fun x hx y hy => hi x (List.mem_cons_of_mem _ hx) y (List.mem_cons_of_mem _ hy)⟩
    obtain ⟨b, hb, e⟩ := List.mem_map.1 hm
    have := hi a (List.mem_cons_self ..) b (List.mem_cons_of_mem _ hb) e.symm
    exact hn.1 (this ▸ hb)

/-- Fermat's little law. -/
theorem fermat {p a : Nat} (h : Pr p) (ha : ¬ p ∣ a) : a ^ (p - 1) % p = 1 := by
  have hp := h.1
  have hn : (List.range' 1 (p - 1)).Nodup := List.nodup_range' ..
  have hm : ((List.range' 1 (p - 1)).map fun x => a * x % p).Nodup := nodup_map_of hn fun x hx y hy e => by
    rw [List.mem_range'_1] at hx hy
    exact inj_mod h ha (by omega) (by omega) e
  have hperm := perm_of_sub (l2 := List.range' 1 (p - 1)) hm (fun y hy => by
    obtain ⟨x, hx, rfl⟩ := List.mem_map.1 hy
    rw [List.mem_range'_1] at hx ⊢
    have hlt := Nat.mod_lt (a * x) h.pos
    have hne : a * x % p ≠ 0 := fun e => by
      rcases h.euclid (Nat.dvd_of_mod_eq_zero e) with h1 | h1
      · exact ha h1
      · exact not_dvd_small (by omega) (by omega) h1
    omega) (by rw [List.length_map]; exact Nat.le_refl _)
  have e := prodL_map p a (List.range' 1 (p - 1))
  rw [prodL_perm hperm, List.length_range'] at e
  have hnot : ¬ p ∣ prodL (List.range' 1 (p - 1)) := prodL_not h _ fun x hx => by
    rw [List.mem_range'_1] at hx
    exact not_dvd_small (by omega) (by omega)
  have hmul : ∀ z, z * prodL (List.range' 1 (p - 1)) % p = prodL (List.range' 1 (p - 1)) * (z % p) % p := fun z => by
    rw [Nat.mul_comm, Nat.mul_mod_mod]
  rw [hmul] at e
  have e1 : prodL (List.range' 1 (p - 1)) % p = prodL (List.range' 1 (p - 1)) * 1 % p := by rw [Nat.mul_one]
  rw [e1] at e
  exact (inj_mod h hnot (by omega) (Nat.mod_lt _ h.pos) e).symm

theorem least_div : ∀ (k n : Nat), 2 ≤ n → n ≤ k → ∃ r, Pr r ∧ r ∣ n
  | 0, n, h2, hk => by omega
  | k + 1, n, h2, hk => by
    by_cases hp : Pr n
    · exact ⟨n, hp, Nat.dvd_refl _⟩
    · have : ∃ d, d ∣ n ∧ d ≠ 1 ∧ d ≠ n := by
        apply Classical.byContradiction
        intro hc
        refine hp ⟨h2, fun d hd => ?_⟩
        apply Classical.byContradiction
        intro hd2
        exact hc ⟨d, hd, fun e => hd2 (.inl e), fun e => hd2 (.inr e)⟩
      obtain ⟨d, hd, h1, h3⟩ := this
      have hle := Nat.le_of_dvd (by omega) hd
      have h0 : d ≠ 0 := fun e => by subst e; have := Nat.eq_zero_of_zero_dvd hd; omega
      obtain ⟨r, hr, hrd⟩ := least_div k d (by omega) (by omega)
      exact ⟨r, hr, Nat.dvd_trans hrd hd⟩

theorem small_div {n : Nat} (h2 : 2 ≤ n) (hp : ¬ Pr n) : ∃ r, Pr r ∧ r ∣ n ∧ r * r ≤ n := by
  have : ∃ d, d ∣ n ∧ d ≠ 1 ∧ d ≠ n := by
    apply Classical.byContradiction
    intro hc
    refine hp ⟨h2, fun d hd => ?_⟩
    apply Classical.byContradiction
    intro hd2
    exact hc ⟨d, hd, fun e => hd2 (.inl e), fun e => hd2 (.inr e)⟩
  obtain ⟨d, ⟨e, rfl⟩, h1, h3⟩ := this
  have hd0 : d ≠ 0 := fun e' => by subst e'; omega
  have he0 : e ≠ 0 := fun e' => by subst e'; omega
  have he1 : e ≠ 1 := fun e' => by subst e'; omega
  rcases Nat.le_total d e with hde | hde
  · obtain ⟨r, hr, hrd⟩ := least_div d d (by omega) (Nat.le_refl _)
    have hle := Nat.le_of_dvd (by omega) hrd
    exact ⟨r, hr, Nat.dvd_trans hrd (Nat.dvd_mul_right ..), Nat.le_trans (Nat.mul_le_mul hle hle) (Nat.mul_le_mul_left d hde)⟩
  · obtain ⟨r, hr, hrd⟩ := least_div e e (by omega) (Nat.le_refl _)
    have hle := Nat.le_of_dvd (by omega) hrd
    exact ⟨r, hr, Nat.dvd_trans hrd (Nat.dvd_mul_left ..), Nat.le_trans (Nat.mul_le_mul hle hle) (Nat.mul_le_mul_right e hde)⟩

theorem pow_gcd {r a : Nat} (hr : 2 ≤ r) (m k : Nat) : a ^ m % r = 1 → a ^ k % r = 1 → a ^ Nat.gcd m k % r = 1 := by
  induction m, k using Nat.gcd.induction with
  | H0 n => intro _ h; rw [Nat.gcd_zero_left]; exact h
  | H1 m n hm ih =>
    intro h1 h2
    rw [Nat.gcd_rec]
    refine ih ?_ h1
    have e : a ^ n % r = a ^ (n % m) % r := by
      conv => lhs; rw [← Nat.div_add_mod n m, Nat.pow_add, Nat.pow_mul, Nat.mul_mod, Nat.pow_mod, h1, Nat.one_pow, Nat.mod_eq_of_lt (show 1 < r by omega), Nat.one_mul, Nat.mod_mod]
    rw [← e]
    exact h2

/-- One prime power of n - 1 divides each prime divisor of n, less 1. -/
theorem pock_one {n q e a m : Nat} (hn2 : 2 ≤ n) (hq : Pr q) (he : n - 1 = q ^ (e + 1) * m) (h1 : a ^ (n - 1) % n = 1) (h2 : Nat.gcd (a ^ (q ^ e * m) % n + n - 1) n = 1)
    {r : Nat} (hr : Pr r) (hd : r ∣ n) : q ^ (e + 1) ∣ r - 1 := by
  have hr2 := hr.1
  have ha1 : a ^ (n - 1) % r = 1 := by
    have := congrArg (· % r) h1
    simp only [Nat.mod_mod_of_dvd _ hd] at this
    rw [this, Nat.mod_eq_of_lt (by omega)]
  have hna : ¬ r ∣ a := fun h => by
    have : r ∣ a ^ (n - 1) := Nat.dvd_trans h (by
      have := Nat.pow_dvd_pow a (show 1 ≤ n - 1 by omega)
      rwa [Nat.pow_one] at this)
    rw [Nat.mod_eq_zero_of_dvd this] at ha1
    omega
  have hg := pow_gcd hr2 _ _ ha1 (fermat hr hna)
  obtain ⟨h, hh⟩ := Nat.gcd_dvd_left (n - 1) (r - 1)
  by_cases hqh : q ∣ h
  · obtain ⟨k, rfl⟩ := hqh
    have hk : q ^ e * m = Nat.gcd (n - 1) (r - 1) * k := by
      have : q * (q ^ e * m) = q * (Nat.gcd (n - 1) (r - 1) * k) := by
        rw [← Nat.mul_assoc, ← Nat.pow_succ', ← he, Nat.mul_left_comm q, ← hh]
      exact Nat.eq_of_mul_eq_mul_left hq.pos this
    have hone : a ^ (q ^ e * m) % r = 1 := by
      rw [hk, Nat.pow_mul, Nat.pow_mod, hg, Nat.one_pow, Nat.mod_eq_of_lt (by omega)]
    have hmn : a ^ (q ^ e * m) % n % r = 1 := by rw [Nat.mod_mod_of_dvd _ hd, hone]
    have hdv : r ∣ a ^ (q ^ e * m) % n + n - 1 := by
      obtain ⟨c, rfl⟩ := hd
      have := Nat.div_add_mod (a ^ (q ^ e * m) % (r * c)) r
      refine ⟨a ^ (q ^ e * m) % (r * c) / r + c, ?_⟩
      rw [Nat.mul_add]
      omega
    have := Nat.dvd_gcd hdv hd
    rw [h2] at this
    have := Nat.le_of_dvd (by decide) this
    omega
  · have hc : Nat.Coprime (q ^ (e + 1)) h := Nat.Coprime.pow_left _ (hq.cop hqh)
    have hdg : q ^ (e + 1) ∣ Nat.gcd (n - 1) (r - 1) * h := by rw [← hh, he]; exact Nat.dvd_mul_right ..
    exact Nat.dvd_trans (hc.dvd_of_dvd_mul_right hdg) (Nat.gcd_dvd_right ..)

theorem pock {n F : Nat} (h2 : 2 ≤ n) (hF : n < F * F) (h : ∀ r, Pr r → r ∣ n → F ∣ r - 1) : Pr n := by
  apply Classical.byContradiction
  intro hp
  obtain ⟨r, hr, hd, hle⟩ := small_div h2 hp
  have h1 := hr.1
  have := Nat.le_of_dvd (by omega) (h r hr hd)
  have : F * F ≤ r * r := Nat.mul_le_mul (by omega) (by omega)
  omega

/-- A power, by squares; each number is come to at once. -/
def forceN {α : Type} (n : Nat) (f : Nat → α) : α := match n with
  | 0 => f 0
  | k + 1 => f (k + 1)
theorem forceN_eq {α : Type} (n : Nat) (f : Nat → α) : forceN n f = f n := by cases n <;> rfl
def pw (n : Nat) : Nat → Nat → Nat → Nat → Nat
  | 0, o, _, _ => o
  | f + 1, o, x, k => forceN k fun k => cond (Nat.beq k 0) o (forceN (x * x % n) fun y => forceN (cond (Nat.beq (k % 2) 1) (o * x % n) o) fun o => pw n f o y (k / 2))
theorem pw_eq {p : Nat} : ∀ (n o x k : Nat), k < 2 ^ n → o < p → pw p n o x k = o * x ^ k % p
  | 0, o, x, k, hk, ho => by
    have : k = 0 := by omega
    subst this
    show o = _
    rw [Nat.pow_zero, Nat.mul_one, Nat.mod_eq_of_lt ho]
  | n + 1, o, x, k, hk, ho => by
    unfold pw
    simp only [forceN_eq]
    rw [Nat.pow_succ] at hk
    cases h0 : Nat.beq k 0
    · simp only [cond_false]
      have hsq : (x * x % p) ^ (k / 2) % p = x ^ (2 * (k / 2)) % p := by
        rw [← Nat.pow_mod, Nat.pow_mul, Nat.pow_two]
      cases h1 : Nat.beq (k % 2) 1
      · have h1' : ¬ k % 2 = 1 := fun e => by rw [e] at h1; cases h1
        simp only [cond_false]
        rw [pw_eq n _ _ _ (by omega) ho, Nat.mul_mod, hsq, ← Nat.mul_mod, show 2 * (k / 2) = k by omega]
      · have h1 := Nat.eq_of_beq_eq_true h1
        simp only [cond_true]
        rw [pw_eq n _ _ _ (by omega) (Nat.mod_lt _ (by omega)), Nat.mul_mod, hsq, Nat.mod_mod, ← Nat.mul_mod, Nat.mul_assoc, ← Nat.pow_succ', show (2 * (k / 2)).succ = k by omega]
    · have h0 := Nat.eq_of_beq_eq_true h0
      subst h0
      simp only [cond_true]
      rw [Nat.pow_zero, Nat.mul_one, Nat.mod_eq_of_lt ho]
def pwm (n a k : Nat) : Nat := pw n 256 1 (a % n) k
theorem pwm_eq {n : Nat} (hn : 2 ≤ n) {a k : Nat} (hk : Nat.blt k (2 ^ 256) = true) : pwm n a k = a ^ k % n := by
  have hk' : k < 2 ^ 256 := Nat.le_of_ble_eq_true hk
  unfold pwm
  rw [pw_eq 256 1 _ _ hk' (by omega), Nat.one_mul, ← Nat.pow_mod]

/-- What is to be computed for one prime power. -/
def pockB (n q e a m : Nat) : Bool := Nat.beq (n - 1) (q ^ (e + 1) * m) && (Nat.blt n (2 ^ 256) && (Nat.beq (pwm n a (n - 1)) 1 && Nat.beq (Nat.gcd (pwm n a (q ^ e * m) + n - 1) n) 1))
theorem pockB_of {n q e a m : Nat} (h2 : 2 ≤ n) (hq : Pr q) (h : pockB n q e a m = true) {r : Nat} (hr : Pr r) (hd : r ∣ n) : q ^ (e + 1) ∣ r - 1 := by
  simp only [pockB, Bool.and_eq_true] at h
  obtain ⟨h1, h3, h4, h5⟩ := h
  have h1 := Nat.eq_of_beq_eq_true h1
  have h3 : n < 2 ^ 256 := Nat.le_of_ble_eq_true h3
  have hm : q ^ e * m ≤ n - 1 := by
    rw [h1, Nat.pow_succ, Nat.mul_right_comm]
    exact Nat.le_mul_of_pos_right _ hq.pos
  rw [pwm_eq h2 (Nat.ble_eq_true_of_le (show n - 1 + 1 ≤ 2 ^ 256 by omega))] at h4
  rw [pwm_eq h2 (Nat.ble_eq_true_of_le (show q ^ e * m + 1 ≤ 2 ^ 256 by omega))] at h5
  exact pock_one h2 hq h1 (Nat.eq_of_beq_eq_true h4) (Nat.eq_of_beq_eq_true h5) hr hd

/-- Little primes, by trial. -/
def triB (n : Nat) : Nat → Nat → Bool
  | 0, _ => false
  | f + 1, d => forceN d fun d => cond (Nat.blt n (d * d)) true (cond (Nat.beq (n % d) 0) false (triB n f (d + 1)))
theorem triB_of {n : Nat} : ∀ (f d : Nat), triB n f d = true → 0 < d → (∀ x, 1 < x → x < d → ¬ x ∣ n) → ∀ x, 1 < x → x * x ≤ n → ¬ x ∣ n
  | 0, d, h, _, _ => by cases h
  | f + 1, d, h, hd0, hb => by
    unfold triB at h
    rw [forceN_eq] at h
    cases h1 : Nat.blt n (d * d)
    · rw [h1] at h
      cases h2 : Nat.beq (n % d) 0
      · rw [h2] at h
        refine triB_of f (d + 1) h (by omega) fun x hx hxd hdv => ?_
        by_cases hxd2 : x = d
        · subst hxd2
          rw [Nat.mod_eq_zero_of_dvd hdv] at h2
          cases h2
        · exact hb x hx (by omega) hdv
      · rw [h2] at h; cases h
    · have h1 : n < d * d := Nat.le_of_ble_eq_true h1
      intro x hx hxx
      refine hb x hx ?_
      apply Classical.byContradiction
      intro hc
      have := Nat.mul_le_mul (show d ≤ x by omega) (show d ≤ x by omega)
      omega
theorem tri_pr {n : Nat} (f : Nat) (h2 : 2 ≤ n) (h : triB n f 2 = true) : Pr n := by
  apply Classical.byContradiction
  intro hp
  obtain ⟨r, hr, hd, hle⟩ := small_div h2 hp
  have := hr.1
  exact triB_of f 2 h (by decide) (fun x a b => by omega) r (by omega) hle hd

end Go.Proofs.Ytkedomfjjahjnaa

/- The four moduli are primes. No statement of a seat is proved here. -/
set_option maxRecDepth 100000
namespace Go.Proofs.Ytkedomfjjahjnaa

theorem pr_16513537 : Pr 16513537 := tri_pr 4065 (by decide) (by decide +kernel)

theorem pr_16521217 : Pr 16521217 := tri_pr 4066 (by decide) (by decide +kernel)

theorem pr_772231 : Pr 772231 := tri_pr 880 (by decide) (by decide +kernel)

theorem pr_413527 : Pr 413527 := tri_pr 645 (by decide) (by decide +kernel)

theorem pr_325086459374267 : Pr 325086459374267 := pock (F := 319338368737) (by decide) (by decide +kernel) fun r hr hd => by
  have h0 : 772231 ∣ r - 1 := pockB_of (n := 325086459374267) (q := 772231) (e := 0) (a := 2) (m := 420970486) (by decide) pr_772231 (by decide +kernel) hr hd
  have h1 : 413527 ∣ r - 1 := pockB_of (n := 325086459374267) (q := 413527) (e := 0) (a := 2) (m := 786131158) (by decide) pr_413527 (by decide +kernel) hr hd
  have k1 : 319338368737 ∣ r - 1 := Nat.Coprime.mul_dvd_of_dvd_of_dvd (m := 772231) (n := 413527) (show Nat.gcd 772231 413527 = 1 by decide +kernel) h0 h1
  exact k1

theorem pr_6942563 : Pr 6942563 := tri_pr 2636 (by decide) (by decide +kernel)

theorem pr_41655379 : Pr 41655379 := pock (F := 6942563) (by decide) (by decide +kernel) fun r hr hd => by
  have h0 : 6942563 ∣ r - 1 := pockB_of (n := 41655379) (q := 6942563) (e := 0) (a := 2) (m := 6) (by decide) pr_6942563 (by decide +kernel) hr hd
  exact h0

theorem pr_22160661629 : Pr 22160661629 := pock (F := 41655379) (by decide) (by decide +kernel) fun r hr hd => by
  have h0 : 41655379 ∣ r - 1 := pockB_of (n := 22160661629) (q := 41655379) (e := 0) (a := 2) (m := 532) (by decide) pr_41655379 (by decide +kernel) hr hd
  exact h0

theorem pr_8999194758858563409123804352480028797519453 : Pr 8999194758858563409123804352480028797519453 := pock (F := 7204131026362786056900943) (by decide) (by decide +kernel) fun r hr hd => by
  have h0 : 325086459374267 ∣ r - 1 := pockB_of (n := 8999194758858563409123804352480028797519453) (q := 325086459374267) (e := 0) (a := 2) (m := 27682465692912573825889481556) (by decide) pr_325086459374267 (by decide +kernel) hr hd
  have h1 : 22160661629 ∣ r - 1 := pockB_of (n := 8999194758858563409123804352480028797519453) (q := 22160661629) (e := 0) (a := 2) (m := 406088721966766121824069856270988) (by decide) pr_22160661629 (by decide +kernel) hr hd
  have k1 : 7204131026362786056900943 ∣ r - 1 := Nat.Coprime.mul_dvd_of_dvd_of_dvd (m := 325086459374267) (n := 22160661629) (show Nat.gcd 325086459374267 22160661629 = 1 by decide +kernel) h0 h1
  exact k1

theorem pr_28948022309329048855892746252171976963363056481941560715954676764349967630337 : Pr 28948022309329048855892746252171976963363056481941560715954676764349967630337 := pock (F := 8999194758858563409123804352480028797519453) (by decide) (by decide +kernel) fun r hr hd => by
  have h0 : 8999194758858563409123804352480028797519453 ∣ r - 1 := pockB_of (n := 28948022309329048855892746252171976963363056481941560715954676764349967630337) (q := 8999194758858563409123804352480028797519453) (e := 0) (a := 2) (m := 3216734728497058061019394250637312) (by decide) pr_8999194758858563409123804352480028797519453 (by decide +kernel) hr hd
  exact h0

theorem pr_31649 : Pr 31649 := tri_pr 179 (by decide) (by decide +kernel)

theorem pr_12149 : Pr 12149 := tri_pr 112 (by decide) (by decide +kernel)

theorem pr_5239247429827 : Pr 5239247429827 := pock (F := 384503701) (by decide) (by decide +kernel) fun r hr hd => by
  have h0 : 31649 ∣ r - 1 := pockB_of (n := 5239247429827) (q := 31649) (e := 0) (a := 2) (m := 165542274) (by decide) pr_31649 (by decide +kernel) hr hd
  have h1 : 12149 ∣ r - 1 := pockB_of (n := 5239247429827) (q := 12149) (e := 0) (a := 2) (m := 431249274) (by decide) pr_12149 (by decide +kernel) hr hd
  have k1 : 384503701 ∣ r - 1 := Nat.Coprime.mul_dvd_of_dvd_of_dvd (m := 31649) (n := 12149) (show Nat.gcd 31649 12149 = 1 by decide +kernel) h0 h1
  exact k1

theorem pr_5701177 : Pr 5701177 := tri_pr 2389 (by decide) (by decide +kernel)

theorem pr_399082391 : Pr 399082391 := pock (F := 5701177) (by decide) (by decide +kernel) fun r hr hd => by
  have h0 : 5701177 ∣ r - 1 := pockB_of (n := 399082391) (q := 5701177) (e := 0) (a := 2) (m := 70) (by decide) pr_5701177 (by decide +kernel) hr hd
  exact h0

theorem pr_10427374428728808478656897599072717 : Pr 10427374428728808478656897599072717 := pock (F := 2090891391335963876357) (by decide) (by decide +kernel) fun r hr hd => by
  have h0 : 5239247429827 ∣ r - 1 := pockB_of (n := 10427374428728808478656897599072717) (q := 5239247429827) (e := 0) (a := 2) (m := 1990242791238649418308) (by decide) pr_5239247429827 (by decide +kernel) hr hd
  have h1 : 399082391 ∣ r - 1 := pockB_of (n := 10427374428728808478656897599072717) (q := 399082391) (e := 0) (a := 2) (m := 26128375152309860944621076) (by decide) pr_399082391 (by decide +kernel) hr hd
  have k1 : 2090891391335963876357 ∣ r - 1 := Nat.Coprime.mul_dvd_of_dvd_of_dvd (m := 5239247429827) (n := 399082391) (show Nat.gcd 5239247429827 399082391 = 1 by decide +kernel) h0 h1
  exact k1

theorem pr_2 : Pr 2 := tri_pr 3 (by decide) (by decide +kernel)

theorem pr_28948022309329048855892746252171976963363056481941647379679742748393362948097 : Pr 28948022309329048855892746252171976963363056481941647379679742748393362948097 := pock (F := 44785232154536915268878889192838239440863232) (by decide) (by decide +kernel) fun r hr hd => by
  have h0 : 10427374428728808478656897599072717 ∣ r - 1 := pockB_of (n := 28948022309329048855892746252171976963363056481941647379679742748393362948097) (q := 10427374428728808478656897599072717) (e := 0) (a := 2) (m := 2776156405161148062854777934377771323097088) (by decide) pr_10427374428728808478656897599072717 (by decide +kernel) hr hd
  have h1 : 4294967296 ∣ r - 1 := pockB_of (n := 28948022309329048855892746252171976963363056481941647379679742748393362948097) (q := 2) (e := 31) (a := 5) (m := 6739986666787659948666753771754907668419893943225417141728043264801) (by decide) pr_2 (by decide +kernel) hr hd
  have k1 : 44785232154536915268878889192838239440863232 ∣ r - 1 := Nat.Coprime.mul_dvd_of_dvd_of_dvd (m := 10427374428728808478656897599072717) (n := 4294967296) (show Nat.gcd 10427374428728808478656897599072717 4294967296 = 1 by decide +kernel) h0 h1
  exact k1

end Go.Proofs.Ytkedomfjjahjnaa

/- Plain laws of the curve's points, as divisibilities; printed by a program of this claim's own. No statement of a seat is proved here. -/
namespace Go.Proofs.Ytkedomfjjahjnaa
set_option maxRecDepth 100000

theorem thd_on_e (y3 x3 b y1 y2 x1 x2 l : Int) : (y3*y3-x3*x3*x3-b) = (y3 - x3*l + x1*l - y1) * (y3-(l*(x1-x3)-y1)) + (-x3*x3 + x3*x1 + x3*x2 - x1*l*l + x2*l*l - x1*x1 - 2*x1*x2 - x2*x2 + 2*y1*l) * (x3-(l*l-x1-x2)) + (-l*l*l + 2*x1*l + x2*l) * (l*(x1-x2)-(y1-y2)) + (l*l - 2*x1 - x2) * (l*(y1+y2)-(x1*x1+x1*x2+x2*x2)) + (1) * (y1*y1-x1*x1*x1-b) := by grind
/-- The third point is on the curve. -/
theorem thd_on {p y3 x3 b y1 y2 x1 x2 l : Int} (h0 : p ∣ y3-(l*(x1-x3)-y1)) (h1 : p ∣ x3-(l*l-x1-x2)) (h2 : p ∣ l*(x1-x2)-(y1-y2)) (h3 : p ∣ l*(y1+y2)-(x1*x1+x1*x2+x2*x2)) (h4 : p ∣ y1*y1-x1*x1*x1-b) : p ∣ (y3*y3-x3*x3*x3-b) := by
  rw [thd_on_e y3 x3 b y1 y2 x1 x2 l]
  exact (Int.dvd_add (Int.dvd_add (Int.dvd_add (Int.dvd_add (Int.dvd_trans h0 (Int.dvd_mul_left ..)) (Int.dvd_trans h1 (Int.dvd_mul_left ..))) (Int.dvd_trans h2 (Int.dvd_mul_left ..))) (Int.dvd_trans h3 (Int.dvd_mul_left ..))) (Int.dvd_trans h4 (Int.dvd_mul_left ..)))

theorem thd_sym_e (y3 x3 y1 y2 x1 x2 l : Int) : (y3-(l*(x2-x3)-y2)) = (1) * (y3-(l*(x1-x3)-y1)) + (1) * (l*(x1-x2)-(y1-y2)) := by grind
theorem thd_sym {p y3 x3 y1 y2 x1 x2 l : Int} (h0 : p ∣ y3-(l*(x1-x3)-y1)) (h1 : p ∣ l*(x1-x2)-(y1-y2)) : p ∣ (y3-(l*(x2-x3)-y2)) := by
  rw [thd_sym_e y3 x3 y1 y2 x1 x2 l]
  exact (Int.dvd_add (Int.dvd_trans h0 (Int.dvd_mul_left ..)) (Int.dvd_trans h1 (Int.dvd_mul_left ..)))

theorem back_b_e (y3 x3 y1 y2 x1 x2 l : Int) : ((-l)*((-y1)+y3)-(x1*x1+x1*x3+x3*x3)) = (-l) * (y3-(l*(x1-x3)-y1)) + (-x3 + x2) * (x3-(l*l-x1-x2)) + (-l) * (l*(x1-x2)-(y1-y2)) + (1) * (l*(y1+y2)-(x1*x1+x1*x2+x2*x2)) := by grind
theorem back_b {p y3 x3 y1 y2 x1 x2 l : Int} (h0 : p ∣ y3-(l*(x1-x3)-y1)) (h1 : p ∣ x3-(l*l-x1-x2)) (h2 : p ∣ l*(x1-x2)-(y1-y2)) (h3 : p ∣ l*(y1+y2)-(x1*x1+x1*x2+x2*x2)) : p ∣ ((-l)*((-y1)+y3)-(x1*x1+x1*x3+x3*x3)) := by
  rw [back_b_e y3 x3 y1 y2 x1 x2 l]
  exact (Int.dvd_add (Int.dvd_add (Int.dvd_add (Int.dvd_trans h0 (Int.dvd_mul_left ..)) (Int.dvd_trans h1 (Int.dvd_mul_left ..))) (Int.dvd_trans h2 (Int.dvd_mul_left ..))) (Int.dvd_trans h3 (Int.dvd_mul_left ..)))

theorem chord_b_e (b y1 y2 x1 x2 l : Int) : (x1-x2) * (l*(y1+y2)-(x1*x1+x1*x2+x2*x2)) = (1) * (y1*y1-x1*x1*x1-b) + (-1) * (y2*y2-x2*x2*x2-b) + (y1 + y2) * (l*(x1-x2)-(y1-y2)) := by grind
theorem chord_b {p b y1 y2 x1 x2 l : Int} (h0 : p ∣ y1*y1-x1*x1*x1-b) (h1 : p ∣ y2*y2-x2*x2*x2-b) (h2 : p ∣ l*(x1-x2)-(y1-y2)) : p ∣ (x1-x2) * (l*(y1+y2)-(x1*x1+x1*x2+x2*x2)) := by
  rw [chord_b_e b y1 y2 x1 x2 l]
  exact (Int.dvd_add (Int.dvd_add (Int.dvd_trans h0 (Int.dvd_mul_left ..)) (Int.dvd_trans h1 (Int.dvd_mul_left ..))) (Int.dvd_trans h2 (Int.dvd_mul_left ..)))

theorem ass_gx_e (x7 x5 yt xt ys xs y1 y3 L M l m x1 x3 y2 x2 : Int) : ((xs-x3)*(x1-xt)) * (x5-x7) = (-L*l*l - l*l*l - L*l*m - M*l*m - l*l*m - L*m*m + L*x1 - M*x1 + 2*l*x1 + 2*m*x1 + L*x3 - M*x3 + L*x2 - M*x2 + l*x2 + m*x2) * (l*(x1-x2)-(y1-y2)) + (-L*l*m - M*l*m - l*l*m - M*m*m - l*m*m - m*m*m - L*x1 + m*x1 - L*x3 + l*x3 + 2*m*x3 - L*x2 + 2*l*x2 + 3*m*x2 - 2*y2) * (m*(x2-x3)-(y2-y3)) + (x7*xt - x7*x1 - x5*xt + x5*x1 + L*L*m*m - L*L*x1 - L*l*x1 - l*l*x1 - L*m*x1 - l*m*x1 - m*m*x1 - L*L*x3 - m*m*x3 - L*L*x2 + L*l*x2 + l*l*x2 + L*m*x2 + l*m*x2 - m*m*x2 + x1*x1 + 2*x1*x3 + x3*x3 - 2*L*y2 - 2*l*y2 + 2*x1*x2 + 2*x3*x2 + x2*x2) * (xs-(l*l-x1-x2)) + (-L*m*m + l*m*m + L*x1 + m*x1 + L*x3 - l*x3 + L*x2 - 2*l*x2 - m*x2 + 2*y2) * (ys-(l*(x1-xs)-y1)) + (x7*l*l - x7*x1 - x7*x3 - x7*x2 - x5*l*l + x5*x1 + x5*x3 + x5*x2 - M*M*l*l + M*M*x1 + l*l*x1 + M*M*x3 + M*l*x3 + l*l*x3 + M*m*x3 + l*m*x3 + m*m*x3 + M*M*x2 - M*l*x2 + l*l*x2 - M*m*x2 - l*m*x2 - m*m*x2 - x1*x1 - 2*x1*x3 - x3*x3 + 2*M*y2 + 2*m*y2 - 2*x1*x2 - 2*x3*x2 - x2*x2) * (xt-(m*m-x2-x3)) + (M*l*l - l*l*m - M*x1 + m*x1 - M*x3 - l*x3 - M*x2 + l*x2 + 2*m*x2 - 2*y2) * (yt-(m*(x2-xt)-y2)) + (-l*l*m*m + l*l*x1 + m*m*x1 + l*l*x3 + m*m*x3 + l*l*x2 + m*m*x2 - x1*x1 - 2*x1*x3 - x3*x3 - 2*x1*x2 - 2*x3*x2 - x2*x2) * (x5-(L*L-xs-x3)) + (l*l*m*m - l*l*x1 - m*m*x1 - l*l*x3 - m*m*x3 - l*l*x2 - m*m*x2 + x1*x1 + 2*x1*x3 + x3*x3 + 2*x1*x2 + 2*x3*x2 + x2*x2) * (x7-(M*M-x1-xt)) + (-L*l - M*l - l*l - L*m - M*m - m*m + 2*x1 + 2*x3 + 2*x2) * (l*(y1+y2)-(x1*x1+x1*x2+x2*x2)) + (L*l + M*l + l*l + L*m + M*m + m*m - 2*x1 - 2*x3 - 2*x2) * (m*(y2+y3)-(x2*x2+x2*x3+x3*x3)) + (-L*m*m + l*m*m + L*x1 + m*x1 + L*x3 - l*x3 + L*x2 - 2*l*x2 - m*x2 + 2*y2) * (L*(xs-x3)-(ys-y3)) + (-M*l*l + l*l*m + M*x1 - m*x1 + M*x3 + l*x3 + M*x2 - l*x2 - 2*m*x2 + 2*y2) * (M*(x1-xt)-(y1-yt)) := by grind
theorem ass_gx {p x7 x5 yt xt ys xs y1 y3 L M l m x1 x3 y2 x2 : Int} (h0 : p ∣ l*(x1-x2)-(y1-y2)) (h1 : p ∣ m*(x2-x3)-(y2-y3)) (h2 : p ∣ xs-(l*l-x1-x2)) (h3 : p ∣ ys-(l*(x1-xs)-y1)) (h4 : p ∣ xt-(m*m-x2-x3)) (h5 : p ∣ yt-(m*(x2-xt)-y2)) (h6 : p ∣ x5-(L*L-xs-x3)) (h7 : p ∣ x7-(M*M-x1-xt)) (h8 : p ∣ l*(y1+y2)-(x1*x1+x1*x2+x2*x2)) (h9 : p ∣ m*(y2+y3)-(x2*x2+x2*x3+x3*x3)) (h10 : p ∣ L*(xs-x3)-(ys-y3)) (h11 : p ∣ M*(x1-xt)-(y1-yt)) : p ∣ ((xs-x3)*(x1-xt)) * (x5-x7) := by
  rw [ass_gx_e x7 x5 yt xt ys xs y1 y3 L M l m x1 x3 y2 x2]
  exact (Int.dvd_add (Int.dvd_add (Int.dvd_add (Int.dvd_add (Int.dvd_add (Int.dvd_add (Int.dvd_add (Int.dvd_add (Int.dvd_add (Int.dvd_add (Int.dvd_add (Int.dvd_trans h0 (Int.dvd_mul_left ..)) (Int.dvd_trans h1 (Int.dvd_mul_left ..))) (Int.dvd_trans h2 (Int.dvd_mul_left ..))) (Int.dvd_trans h3 (Int.dvd_mul_left ..))) (Int.dvd_trans h4 (Int.dvd_mul_left ..))) (Int.dvd_trans h5 (Int.dvd_mul_left ..))) (Int.dvd_trans h6 (Int.dvd_mul_left ..))) (Int.dvd_trans h7 (Int.dvd_mul_left ..))) (Int.dvd_trans h8 (Int.dvd_mul_left ..))) (Int.dvd_trans h9 (Int.dvd_mul_left ..))) (Int.dvd_trans h10 (Int.dvd_mul_left ..))) (Int.dvd_trans h11 (Int.dvd_mul_left ..)))

theorem ass_gy_e (y7 x7 y5 x5 yt xt ys xs y1 y3 L M l m x1 x3 y2 x2 : Int) : ((xs-x3)*(x1-xt)) * (y5-y7) = (-L*L*L*l + L*M*M*l - 2*L*L*l*l - L*M*l*l + M*M*l*l - M*l*l*l + l*l*l*l - L*L*l*m - L*M*l*m + M*M*l*m - 2*L*l*l*m - M*l*l*m - l*l*l*m + L*L*m*m - 3*L*l*m*m + M*l*m*m - 3*l*l*m*m - M*l*x1 - 2*l*l*x1 + L*m*x1 + l*m*x1 + 2*m*m*x1 - L*L*x3 + M*M*x3 + 2*L*l*x3 - 3*M*l*x3 + 3*l*l*x3 - L*m*x3 - 2*M*m*x3 + l*m*x3 - m*m*x3 - 2*L*L*x2 + 2*M*M*x2 + L*l*x2 - 2*M*l*x2 + 2*l*l*x2 - M*m*x2 - 2*l*m*x2 - 4*m*m*x2 + 2*x1*x1 + 2*x3*x3 + 6*m*y2 - x1*x2 + 5*x3*x2 + x2*x2) * (l*(x1-x2)-(y1-y2)) + (L*L*l*m - L*M*l*m - M*M*l*m - M*l*l*m - l*l*l*m - L*M*m*m - M*M*m*m - L*l*m*m - 2*M*l*m*m - 2*l*l*m*m - L*m*m*m - l*m*m*m + m*m*m*m + M*M*x1 - 2*L*l*x1 - M*l*x1 - 2*L*m*x1 - 2*M*m*x1 + 3*l*m*x1 + L*L*x3 - L*l*x3 - l*l*x3 - L*m*x3 - M*m*x3 + 2*L*L*x2 - M*M*x2 + M*l*x2 - 2*l*l*x2 + 3*x1*x3 - 2*L*y2 - 2*M*y2 + 2*m*y2 + 6*x1*x2 + 3*x2*x2) * (m*(x2-x3)-(y2-y3)) + (y7*xt - y7*x1 - y5*xt + y5*x1 - L*L*L*m*m + L*M*M*x1 - 2*L*L*l*x1 - L*M*l*x1 + M*M*l*x1 - M*l*l*x1 + l*l*l*x1 - L*L*m*x1 - L*M*m*x1 - 2*L*l*m*x1 - M*l*m*x1 - l*l*m*x1 - 2*L*m*m*x1 - 3*l*m*m*x1 + L*L*L*x3 + 2*L*m*m*x3 + l*m*m*x3 + 2*L*L*L*x2 - L*M*M*x2 + 2*L*L*l*x2 + L*M*l*x2 - M*M*l*x2 + M*l*l*x2 - l*l*l*x2 + L*L*m*x2 + L*M*m*x2 + 2*L*l*m*x2 + M*l*m*x2 + l*l*m*x2 + 3*L*m*m*x2 + 2*l*m*m*x2 - 2*L*x1*x1 - l*x1*x1 + 3*l*x1*x3 + m*x1*x3 - 2*L*x3*x3 - l*x3*x3 - 2*L*L*y2 - 2*L*M*y2 - 2*M*l*y2 + 2*l*l*y2 - 4*L*m*y2 + L*x1*x2 + 2*l*x1*x2 - m*x1*x2 - 5*L*x3*x2 - 4*l*x3*x2 - m*x3*x2 - L*x2*x2 - 5*l*x2*x2 - 5*m*x2*x2 + 2*x1*y2 + 4*x3*y2 + 6*y2*x2) * (xs-(l*l-x1-x2)) + (L*L*m*m - L*l*m*m - M*M*x1 + 2*L*l*x1 + M*l*x1 - l*l*x1 + L*m*x1 + M*m*x1 + l*m*x1 + 3*m*m*x1 - L*L*x3 + L*l*x3 - m*m*x3 - 2*L*L*x2 + M*M*x2 - M*l*x2 + l*l*x2 - L*m*x2 - M*m*x2 - l*m*x2 - 2*m*m*x2 + x1*x1 - x1*x3 + x3*x3 + 2*L*y2 + 2*M*y2 + 4*m*y2 - 4*x1*x2 + 2*x3*x2 - 2*x2*x2) * (ys-(l*(x1-xs)-y1)) + (y7*l*l - y7*x1 - y7*x3 - y7*x2 - y5*l*l + y5*x1 + y5*x3 + y5*x2 + M*M*M*l*l - M*M*M*x1 - M*l*l*x1 - M*M*M*x3 + L*M*l*x3 + M*M*l*x3 + M*l*l*x3 + L*M*m*x3 + M*M*m*x3 + L*l*m*x3 + 2*M*l*m*x3 + 2*l*l*m*x3 + L*m*m*x3 + l*m*m*x3 - m*m*m*x3 - M*M*M*x2 - L*M*l*x2 - M*M*l*x2 - 3*M*l*l*x2 - L*M*m*x2 - M*M*m*x2 - L*l*m*x2 - 2*M*l*m*x2 - 2*l*l*m*x2 - L*m*m*x2 - l*m*m*x2 + m*m*m*x2 + M*x1*x1 - L*x1*x3 + 3*M*x1*x3 - 2*l*x1*x3 + M*x3*x3 + 2*L*M*y2 + 2*M*M*y2 - 2*L*l*y2 + 6*M*l*y2 - 2*l*l*y2 + 2*L*m*y2 + 2*l*m*y2 - 2*m*m*y2 + L*x1*x2 + M*x1*x2 + 2*l*x1*x2 + L*x3*x2 + M*x3*x2 + 2*l*x3*x2 + 2*L*x2*x2 - M*x2*x2 + 7*l*x2*x2 + 3*m*x2*x2 - 2*x1*y2 - 4*x3*y2 - 6*y2*x2) * (xt-(m*m-x2-x3)) + (-M*M*l*l + M*l*l*m + M*M*x1 - M*m*x1 + M*M*x3 - L*l*x3 - M*l*x3 - 2*l*l*x3 - L*m*x3 - 2*M*m*x3 - l*m*x3 + m*m*x3 + M*M*x2 + L*l*x2 + M*l*x2 + 2*l*l*x2 + L*m*x2 + l*m*x2 - m*m*x2 - x1*x3 - 2*L*y2 - 2*M*y2 - 6*l*y2 + 2*m*y2 + x1*x2 + x3*x2 + 2*x2*x2) * (yt-(m*(x2-xt)-y2)) + (L*l*l*m*m - L*l*l*x1 - L*m*m*x1 - L*l*l*x3 - L*m*m*x3 - L*l*l*x2 - L*m*m*x2 + L*x1*x1 + L*x1*x3 - 2*l*x1*x3 - m*x1*x3 + L*x3*x3 - 2*L*l*y2 - 2*l*l*y2 - 4*l*m*y2 + 3*L*x1*x2 + 2*l*x1*x2 + m*x1*x2 + 3*L*x3*x2 + 2*l*x3*x2 + m*x3*x2 + 3*L*x2*x2 + 7*l*x2*x2 + 5*m*x2*x2 - 2*x1*y2 - 4*x3*y2 - 6*y2*x2) * (x5-(L*L-xs-x3)) + (-l*l*m*m + l*l*x1 + m*m*x1 + l*l*x3 + m*m*x3 + l*l*x2 + m*m*x2 - x1*x1 - 2*x1*x3 - x3*x3 - 2*x1*x2 - 2*x3*x2 - x2*x2) * (y5-(L*(xs-x5)-ys)) + (-M*l*l*m*m + M*l*l*x1 + M*m*m*x1 + M*l*l*x3 + M*m*m*x3 + M*l*l*x2 + M*m*m*x2 - M*x1*x1 + L*x1*x3 - 2*M*x1*x3 + 2*l*x1*x3 + m*x1*x3 - M*x3*x3 + 2*L*l*y2 + 2*l*l*y2 + 4*l*m*y2 - L*x1*x2 - 2*M*x1*x2 - 2*l*x1*x2 - m*x1*x2 - L*x3*x2 - 2*M*x3*x2 - 2*l*x3*x2 - m*x3*x2 - 2*L*x2*x2 - M*x2*x2 - 7*l*x2*x2 - 5*m*x2*x2 + 2*x1*y2 + 4*x3*y2 + 6*y2*x2) * (x7-(M*M-x1-xt)) + (l*l*m*m - l*l*x1 - m*m*x1 - l*l*x3 - m*m*x3 - l*l*x2 - m*m*x2 + x1*x1 + 2*x1*x3 + x3*x3 + 2*x1*x2 + 2*x3*x2 + x2*x2) * (y7-(M*(x1-x7)-y1)) + (-L*L*L + L*M*M - 2*L*L*l - L*M*l + 2*M*M*l - M*l*l + l*l*l - L*L*m - L*M*m + M*M*m - 2*L*l*m - 2*M*l*m - l*l*m - 2*L*m*m + M*m*m - 4*l*m*m - 2*L*x1 - 2*M*x1 + 2*L*x3 - 2*M*x3 + 6*l*x3 + 2*m*x3 - 2*M*x2 - 2*m*x2 + 6*y2) * (l*(y1+y2)-(x1*x1+x1*x2+x2*x2)) + (-L*L*l + L*M*l + M*M*l + M*l*l + l*l*l - L*L*m + L*M*m + M*M*m + 2*L*l*m + 2*M*l*m + 3*l*l*m + L*m*m + l*m*m - m*m*m + L*x1 + M*x1 - 4*l*x1 - 4*m*x1 + L*x3 + M*x3 + L*x2 + M*x2 + l*x2 + m*x2 - 6*y2) * (m*(y2+y3)-(x2*x2+x2*x3+x3*x3)) + (L*L*m*m - L*l*m*m - l*l*m*m - M*M*x1 + 2*L*l*x1 + M*l*x1 + L*m*x1 + M*m*x1 + l*m*x1 + 4*m*m*x1 - L*L*x3 + L*l*x3 + l*l*x3 - 2*L*L*x2 + M*M*x2 - M*l*x2 + 2*l*l*x2 - L*m*x2 - M*m*x2 - l*m*x2 - m*m*x2 - 3*x1*x3 + 2*L*y2 + 2*M*y2 + 4*m*y2 - 6*x1*x2 - 3*x2*x2) * (L*(xs-x3)-(ys-y3)) + (M*M*l*l - M*l*l*m - M*M*x1 + M*m*x1 - M*M*x3 + L*l*x3 + M*l*x3 + 2*l*l*x3 + L*m*x3 + 2*M*m*x3 + l*m*x3 - m*m*x3 - M*M*x2 - L*l*x2 - M*l*x2 - 2*l*l*x2 - L*m*x2 - l*m*x2 + m*m*x2 + x1*x3 + 2*L*y2 + 2*M*y2 + 6*l*y2 - 2*m*y2 - x1*x2 - x3*x2 - 2*x2*x2) * (M*(x1-xt)-(y1-yt)) + (L*x1*x3 + 2*l*x1*x3 + m*x1*x3 + 2*L*l*y2 + 2*l*l*y2 + 4*l*m*y2 - L*x1*x2 - 2*l*x1*x2 - m*x1*x2 - L*x3*x2 - 2*l*x3*x2 - m*x3*x2 - 2*L*x2*x2 - 7*l*x2*x2 - 5*m*x2*x2 + 2*x1*y2 + 4*x3*y2 + 6*y2*x2) * (x5-x7) := by grind
theorem ass_gy {p y7 x7 y5 x5 yt xt ys xs y1 y3 L M l m x1 x3 y2 x2 : Int} (h0 : p ∣ l*(x1-x2)-(y1-y2)) (h1 : p ∣ m*(x2-x3)-(y2-y3)) (h2 : p ∣ xs-(l*l-x1-x2)) (h3 : p ∣ ys-(l*(x1-xs)-y1)) (h4 : p ∣ xt-(m*m-x2-x3)) (h5 : p ∣ yt-(m*(x2-xt)-y2)) (h6 : p ∣ x5-(L*L-xs-x3)) (h7 : p ∣ y5-(L*(xs-x5)-ys)) (h8 : p ∣ x7-(M*M-x1-xt)) (h9 : p ∣ y7-(M*(x1-x7)-y1)) (h10 : p ∣ l*(y1+y2)-(x1*x1+x1*x2+x2*x2)) (h11 : p ∣ m*(y2+y3)-(x2*x2+x2*x3+x3*x3)) (h12 : p ∣ L*(xs-x3)-(ys-y3)) (h13 : p ∣ M*(x1-xt)-(y1-yt)) (h14 : p ∣ x5-x7) : p ∣ ((xs-x3)*(x1-xt)) * (y5-y7) := by
  rw [ass_gy_e y7 x7 y5 x5 yt xt ys xs y1 y3 L M l m x1 x3 y2 x2]
  exact (Int.dvd_add (Int.dvd_add (Int.dvd_add (Int.dvd_add (Int.dvd_add (Int.dvd_add (Int.dvd_add (Int.dvd_add (Int.dvd_add (Int.dvd_add (Int.dvd_add (Int.dvd_add (Int.dvd_add (Int.dvd_add (Int.dvd_trans h0 (Int.dvd_mul_left ..)) (Int.dvd_trans h1 (Int.dvd_mul_left ..))) (Int.dvd_trans h2 (Int.dvd_mul_left ..))) (Int.dvd_trans h3 (Int.dvd_mul_left ..))) (Int.dvd_trans h4 (Int.dvd_mul_left ..))) (Int.dvd_trans h5 (Int.dvd_mul_left ..))) (Int.dvd_trans h6 (Int.dvd_mul_left ..))) (Int.dvd_trans h7 (Int.dvd_mul_left ..))) (Int.dvd_trans h8 (Int.dvd_mul_left ..))) (Int.dvd_trans h9 (Int.dvd_mul_left ..))) (Int.dvd_trans h10 (Int.dvd_mul_left ..))) (Int.dvd_trans h11 (Int.dvd_mul_left ..))) (Int.dvd_trans h12 (Int.dvd_mul_left ..))) (Int.dvd_trans h13 (Int.dvd_mul_left ..))) (Int.dvd_trans h14 (Int.dvd_mul_left ..)))

theorem ass_1x_e (x7 x5 yt xt ys xs y1 y3 L M l m x1 x3 y2 x2 : Int) : 4 * (y2*y3) * (x5-x7) = (L*M*l*x3 + M*M*l*x3 - 2*L*l*l*x3 - 2*M*l*l*x3 + 2*L*M*m*x3 - L*l*m*x3 - 2*M*l*m*x3 + 2*l*l*m*x3 - M*m*m*x3 + l*m*m*x3 + m*m*m*x3 - L*M*l*x2 - M*M*l*x2 + 2*L*l*l*x2 + 2*M*l*l*x2 - 2*L*M*m*x2 + L*l*m*x2 + 2*M*l*m*x2 - 2*l*l*m*x2 + M*m*m*x2 - l*m*m*x2 - m*m*m*x2 + L*x1*x3 + M*x1*x3 + 3*L*x3*x3 - 5*m*x3*x3 - 2*M*M*y2 + 2*L*l*y2 - 2*l*l*y2 + 2*L*m*y2 + 2*M*m*y2 - 2*l*m*y2 - 4*m*m*y2 - L*x1*x2 - M*x1*x2 - L*x3*x2 - M*x3*x2 + 4*m*x3*x2 - 2*L*x2*x2 - 2*M*x2*x2 + 4*m*x2*x2 + 4*x1*y2 - 4*x3*y2) * (l*(x1-x2)-(y1-y2)) + (-4*x7*y2 + 4*x5*y2 + 2*L*M*l*x3 + M*l*l*x3 + L*M*m*x3 + M*M*m*x3 - M*l*m*x3 + l*l*m*x3 + L*m*m*x3 - M*m*m*x3 + l*m*m*x3 - 2*m*m*m*x3 - 2*L*M*l*x2 - M*l*l*x2 - L*M*m*x2 - M*M*m*x2 + M*l*m*x2 - l*l*m*x2 - L*m*m*x2 + M*m*m*x2 - l*m*m*x2 + 2*m*m*m*x2 - L*x1*x3 - M*x1*x3 - 2*L*x3*x3 + M*x3*x3 + 3*m*x3*x3 - 4*L*L*y2 + 2*M*M*y2 + 2*L*l*y2 + 2*l*l*y2 - 4*l*m*y2 - 2*m*m*y2 + L*x1*x2 + M*x1*x2 - L*x3*x2 - M*x3*x2 + 3*L*x2*x2 + 3*M*x2*x2 - 6*m*x2*x2 - 4*x1*y2 + 2*x3*y2 + 2*y2*x2) * (m*(x2-x3)-(y2-y3)) + (-xs*M*l*x3 - xs*M*m*x3 - xs*l*m*x3 - xs*m*m*x3 + xs*M*l*x2 + xs*M*m*x2 + xs*l*m*x2 + xs*m*m*x2 + 2*xs*L*y2 - 2*xs*l*y2 + L*M*x1*x3 + M*M*x1*x3 - 2*L*l*x1*x3 - M*l*x1*x3 - L*m*x1*x3 - 2*M*m*x1*x3 + 3*l*m*x1*x3 + m*m*x1*x3 - L*M*x1*x2 - M*M*x1*x2 + 2*L*l*x1*x2 + M*l*x1*x2 + L*m*x1*x2 + 2*M*m*x1*x2 - 3*l*m*x1*x2 - m*m*x1*x2 - L*M*x3*x2 - M*M*x3*x2 + 2*L*l*x3*x2 + 2*M*l*x3*x2 + L*m*x3*x2 + 3*M*m*x3*x2 - 2*l*m*x3*x2 + L*M*x2*x2 + M*M*x2*x2 - 2*L*l*x2*x2 - 2*M*l*x2*x2 - L*m*x2*x2 - 3*M*m*x2*x2 + 2*l*m*x2*x2 - 4*m*x1*y2 - 4*L*x3*y2 - 4*M*x3*y2 + 4*m*x3*y2 + 2*L*y2*x2 + 4*M*y2*x2 + 2*l*y2*x2 - 4*y2*y2) * (xs-(l*l-x1-x2)) + (-M*l*l*x3 + 2*L*M*m*x3 - l*l*m*x3 - M*m*m*x3 + m*m*m*x3 + M*l*l*x2 - 2*L*M*m*x2 + l*l*m*x2 + M*m*m*x2 - m*m*m*x2 + L*x1*x3 + M*x1*x3 + 2*L*x3*x3 - M*x3*x3 - 3*m*x3*x3 - 2*M*M*y2 + 2*L*l*y2 - 2*l*l*y2 + 2*L*m*y2 + 2*M*m*y2 + 2*l*m*y2 - 4*m*m*y2 - L*x1*x2 - M*x1*x2 + L*x3*x2 + M*x3*x2 - 3*L*x2*x2 - 3*M*x2*x2 + 6*m*x2*x2 + 4*x1*y2 - 2*x3*y2 - 2*y2*x2) * (ys-(l*(x1-xs)-y1)) + (-L*M*x3*x3 - M*M*x3*x3 - L*m*x3*x3 + M*m*x3*x3 + 2*m*m*x3*x3 + 2*L*M*x3*x2 + 2*M*M*x3*x2 + 2*L*m*x3*x2 - 2*M*m*x3*x2 - 4*m*m*x3*x2 - L*M*x2*x2 - M*M*x2*x2 - L*m*x2*x2 + M*m*x2*x2 + 2*m*m*x2*x2 + 2*M*x3*y2 + 6*m*x3*y2 - 2*M*y2*x2 - 6*m*y2*x2 + 4*y2*y2) * (xt-(m*m-x2-x3)) + (L*x3*x3 + M*x3*x3 - 2*m*x3*x3 - 2*L*x3*x2 - 2*M*x3*x2 + 4*m*x3*x2 + L*x2*x2 + M*x2*x2 - 2*m*x2*x2 - 2*x3*y2 + 2*y2*x2) * (yt-(m*(x2-xt)-y2)) + (4*m*x3*y2 - 4*m*y2*x2 + 4*y2*y2) * (x5-(L*L-xs-x3)) + (-4*m*x3*y2 + 4*m*y2*x2 - 4*y2*y2) * (x7-(M*M-x1-xt)) + (L*M*x3 + M*M*x3 - 2*L*l*x3 - M*l*x3 - L*m*x3 - 2*M*m*x3 + 3*l*m*x3 + m*m*x3 - L*M*x2 - M*M*x2 + 2*L*l*x2 + M*l*x2 + L*m*x2 + 2*M*m*x2 - 3*l*m*x2 - m*m*x2 - 4*m*y2) * (l*(y1+y2)-(x1*x1+x1*x2+x2*x2)) + (-L*M*x3 - M*M*x3 + 2*L*l*x3 + M*l*x3 + L*m*x3 + 2*M*m*x3 - l*m*x3 + m*m*x3 + L*M*x2 + M*M*x2 - 2*L*l*x2 - M*l*x2 - L*m*x2 - 2*M*m*x2 + l*m*x2 - m*m*x2 - 2*L*y2 - 2*M*y2 + 2*l*y2 + 6*m*y2) * (m*(y2+y3)-(x2*x2+x2*x3+x3*x3)) + (-L*M*l*x3 - M*l*l*x3 + L*M*m*x3 - L*l*m*x3 - l*l*m*x3 - L*m*m*x3 - M*m*m*x3 + m*m*m*x3 + L*M*l*x2 + M*l*l*x2 - L*M*m*x2 + L*l*m*x2 + l*l*m*x2 + L*m*m*x2 + M*m*m*x2 - m*m*m*x2 + L*x1*x3 + M*x1*x3 + 2*L*x3*x3 - M*x3*x3 - 3*m*x3*x3 + 2*L*L*y2 - 2*M*M*y2 - 2*l*l*y2 + 2*L*m*y2 + 2*M*m*y2 + 2*l*m*y2 - 4*m*m*y2 - L*x1*x2 - M*x1*x2 + L*x3*x2 + M*x3*x2 - 3*L*x2*x2 - 3*M*x2*x2 + 6*m*x2*x2 + 4*x1*y2 - 2*x3*y2 - 2*y2*x2) * (L*(xs-x3)-(ys-y3)) + (-M*l*x3 - M*m*x3 - l*m*x3 - m*m*x3 + M*l*x2 + M*m*x2 + l*m*x2 + m*m*x2 + 2*L*y2 - 2*l*y2) * (L*(ys+y3)-(xs*xs+xs*x3+x3*x3)) + (-L*x3*x3 - M*x3*x3 + 2*m*x3*x3 + 2*L*x3*x2 + 2*M*x3*x2 - 4*m*x3*x2 - L*x2*x2 - M*x2*x2 + 2*m*x2*x2 + 2*x3*y2 - 2*y2*x2) * (M*(x1-xt)-(y1-yt)) + (L*L*M*l*x3 + L*M*l*l*x3 - L*L*M*m*x3 + L*L*l*m*x3 - 2*L*M*l*m*x3 + L*l*l*m*x3 - M*l*l*m*x3 + L*L*m*m*x3 + L*M*m*m*x3 + M*l*m*m*x3 - l*l*m*m*x3 - L*m*m*m*x3 - l*m*m*m*x3 - L*L*M*l*x2 - L*M*l*l*x2 + L*L*M*m*x2 - L*L*l*m*x2 + 2*L*M*l*m*x2 - L*l*l*m*x2 + M*l*l*m*x2 - L*L*m*m*x2 - L*M*m*m*x2 - M*l*m*m*x2 + l*l*m*m*x2 + L*m*m*m*x2 + l*m*m*m*x2 - L*L*x1*x3 - 2*L*M*x1*x3 - M*M*x1*x3 + L*l*x1*x3 + M*l*x1*x3 + L*m*x1*x3 + 3*M*m*x1*x3 - 2*l*m*x1*x3 - 2*L*L*x3*x3 + L*M*x3*x3 - 2*L*l*x3*x3 + 3*L*m*x3*x3 - M*m*x3*x3 + 2*l*m*x3*x3 - m*m*x3*x3 - 2*L*L*L*y2 + 2*L*M*M*y2 + 2*M*M*l*y2 + 2*L*l*l*y2 - 2*L*L*m*y2 - 2*L*M*m*y2 - 4*L*l*m*y2 - 2*M*l*m*y2 - 2*l*l*m*y2 + 4*L*m*m*y2 + 4*l*m*m*y2 + L*L*x1*x2 + 2*L*M*x1*x2 + M*M*x1*x2 - L*l*x1*x2 - M*l*x1*x2 - L*m*x1*x2 - 3*M*m*x1*x2 + 2*l*m*x1*x2 - L*L*x3*x2 + M*M*x3*x2 - 3*L*l*x3*x2 - M*l*x3*x2 - L*m*x3*x2 - M*m*x3*x2 + 4*l*m*x3*x2 + 2*m*m*x3*x2 + 3*L*L*x2*x2 + 2*L*M*x2*x2 - M*M*x2*x2 + 5*L*l*x2*x2 + 4*M*l*x2*x2 - 5*L*m*x2*x2 + 2*M*m*x2*x2 - 9*l*m*x2*x2 - m*m*x2*x2 - 6*L*x1*y2 - 2*l*x1*y2 + 4*m*x1*y2 + 8*L*x3*y2 + 4*M*x3*y2 - 8*m*x3*y2 - 2*L*y2*x2 - 4*M*y2*x2 + 2*l*y2*x2 + 4*m*y2*x2) * (xs-x3) := by grind
theorem ass_1x {p x7 x5 yt xt ys xs y1 y3 L M l m x1 x3 y2 x2 : Int} (h0 : p ∣ l*(x1-x2)-(y1-y2)) (h1 : p ∣ m*(x2-x3)-(y2-y3)) (h2 : p ∣ xs-(l*l-x1-x2)) (h3 : p ∣ ys-(l*(x1-xs)-y1)) (h4 : p ∣ xt-(m*m-x2-x3)) (h5 : p ∣ yt-(m*(x2-xt)-y2)) (h6 : p ∣ x5-(L*L-xs-x3)) (h7 : p ∣ x7-(M*M-x1-xt)) (h8 : p ∣ l*(y1+y2)-(x1*x1+x1*x2+x2*x2)) (h9 : p ∣ m*(y2+y3)-(x2*x2+x2*x3+x3*x3)) (h10 : p ∣ L*(xs-x3)-(ys-y3)) (h11 : p ∣ L*(ys+y3)-(xs*xs+xs*x3+x3*x3)) (h12 : p ∣ M*(x1-xt)-(y1-yt)) (h13 : p ∣ xs-x3) : p ∣ 4 * (y2*y3) * (x5-x7) := by
  rw [ass_1x_e x7 x5 yt xt ys xs y1 y3 L M l m x1 x3 y2 x2]
  exact (Int.dvd_add (Int.dvd_add (Int.dvd_add (Int.dvd_add (Int.dvd_add (Int.dvd_add (Int.dvd_add (Int.dvd_add (Int.dvd_add (Int.dvd_add (Int.dvd_add (Int.dvd_add (Int.dvd_add (Int.dvd_trans h0 (Int.dvd_mul_left ..)) (Int.dvd_trans h1 (Int.dvd_mul_left ..))) (Int.dvd_trans h2 (Int.dvd_mul_left ..))) (Int.dvd_trans h3 (Int.dvd_mul_left ..))) (Int.dvd_trans h4 (Int.dvd_mul_left ..))) (Int.dvd_trans h5 (Int.dvd_mul_left ..))) (Int.dvd_trans h6 (Int.dvd_mul_left ..))) (Int.dvd_trans h7 (Int.dvd_mul_left ..))) (Int.dvd_trans h8 (Int.dvd_mul_left ..))) (Int.dvd_trans h9 (Int.dvd_mul_left ..))) (Int.dvd_trans h10 (Int.dvd_mul_left ..))) (Int.dvd_trans h11 (Int.dvd_mul_left ..))) (Int.dvd_trans h12 (Int.dvd_mul_left ..))) (Int.dvd_trans h13 (Int.dvd_mul_left ..)))

theorem ass_1y_e (y7 x7 y5 x5 yt xt ys xs y1 y3 L M l m x1 x3 y2 x2 : Int) : 4 * (y2*y3) * (y5-y7) = (-M*M*M*l*x3 + M*M*l*l*x3 + 2*L*M*l*m*x3 + 2*M*M*l*m*x3 - 4*L*l*l*m*x3 - 4*M*l*l*m*x3 + 4*L*M*m*m*x3 - 2*L*l*m*m*x3 - 2*M*l*m*m*x3 + 2*l*l*m*m*x3 - 2*M*m*m*m*x3 + 2*l*m*m*m*x3 + 2*m*m*m*m*x3 + M*M*M*l*x2 - M*M*l*l*x2 - 2*L*M*l*m*x2 - 2*M*M*l*m*x2 + 4*L*l*l*m*x2 + 4*M*l*l*m*x2 - 4*L*M*m*m*x2 + 2*L*l*m*m*x2 + 2*M*l*m*m*x2 - 2*l*l*m*m*x2 + 2*M*m*m*m*x2 - 2*l*m*m*m*x2 - 2*m*m*m*m*x2 + 2*L*m*x1*x3 + 2*M*m*x1*x3 - M*M*x3*x3 - 2*M*l*x3*x3 + 2*l*l*x3*x3 + 6*L*m*x3*x3 - 8*m*m*x3*x3 + 2*M*M*M*y2 + 2*L*M*l*y2 + 4*L*l*l*y2 + 4*L*M*m*y2 - 2*M*M*m*y2 + 6*L*l*m*y2 - 2*M*l*m*y2 - 4*l*l*m*y2 + 8*L*m*m*y2 - 2*M*m*m*y2 - 6*l*m*m*y2 - 8*m*m*m*y2 - 2*L*m*x1*x2 - 2*M*m*x1*x2 + 2*M*M*x3*x2 + M*l*x3*x2 - l*l*x3*x2 - 2*L*m*x3*x2 - 2*M*m*x3*x2 + 4*m*m*x3*x2 + 2*M*M*x2*x2 + 4*M*l*x2*x2 - l*l*x2*x2 - 4*L*m*x2*x2 - 4*M*m*x2*x2 + 3*l*m*x2*x2 + 4*m*m*x2*x2 - 2*x3*x3*x3 - 6*L*x1*y2 - 2*M*x1*y2 + 6*m*x1*y2 - 2*L*x3*y2 + 4*M*x3*y2 + 2*l*x3*y2 - 2*m*x3*y2 + 3*x3*x3*x2 - 4*L*y2*x2 + 4*M*y2*x2 - 2*l*y2*x2 + 8*m*y2*x2 - 3*x1*x2*x2 + 9*x3*x2*x2 + 2*x2*x2*x2 - 4*y2*y2) * (l*(x1-x2)-(y1-y2)) + (-4*y7*y2 + 4*y5*y2 - M*M*M*m*x3 + 4*L*M*l*m*x3 + 2*M*l*l*m*x3 + 2*L*M*m*m*x3 + M*M*m*m*x3 - 2*M*l*m*m*x3 + 2*l*l*m*m*x3 + 2*L*m*m*m*x3 + 2*l*m*m*m*x3 - 2*m*m*m*m*x3 + M*M*M*m*x2 - 4*L*M*l*m*x2 - 2*M*l*l*m*x2 - 2*L*M*m*m*x2 - M*M*m*m*x2 + 2*M*l*m*m*x2 - 2*l*l*m*m*x2 - 2*L*m*m*m*x2 - 2*l*m*m*m*x2 + 2*m*m*m*m*x2 - 2*L*m*x1*x3 - 2*M*m*x1*x3 - 4*L*m*x3*x3 + 4*m*m*x3*x3 + 4*L*M*M*y2 - 2*M*M*M*y2 + 4*L*M*l*y2 + 2*M*M*l*y2 + 2*M*l*l*y2 + 2*L*M*m*y2 + 8*L*l*m*y2 - 2*M*l*m*y2 + 2*l*l*m*y2 - 2*L*m*m*y2 + 4*M*m*m*y2 - 8*l*m*m*y2 + 2*m*m*m*y2 + 2*L*m*x1*x2 + 2*M*m*x1*x2 - 2*L*m*x3*x2 - M*m*x3*x2 + m*m*x3*x2 - 3*M*M*x2*x2 + 6*L*m*x2*x2 + 10*M*m*x2*x2 - 2*m*m*x2*x2 - 2*L*x1*y2 + 2*M*x1*y2 - 4*l*x1*y2 - 4*m*x1*y2 + 8*L*x3*y2 - 2*M*x3*y2 + 2*l*x3*y2 - 12*m*x3*y2 + 6*L*y2*x2 - 6*M*y2*x2 + 2*l*y2*x2 - 2*m*y2*x2 + 3*x1*x2*x2 - 6*x3*x2*x2 - 6*x2*x2*x2) * (m*(x2-x3)-(y2-y3)) + (-2*xs*M*l*m*x3 - 2*xs*M*m*m*x3 - 2*xs*l*m*m*x3 - 2*xs*m*m*m*x3 + 2*xs*M*l*m*x2 + 2*xs*M*m*m*x2 + 2*xs*l*m*m*x2 + 2*xs*m*m*m*x2 - 2*xs*M*M*y2 - 2*xs*M*l*y2 - 2*xs*M*m*y2 - 2*xs*l*m*y2 + 4*xs*x1*y2 - 2*xs*x3*y2 - 2*xs*y2*x2 - M*M*M*x1*x3 + M*M*l*x1*x3 + 2*L*M*m*x1*x3 + 2*M*M*m*x1*x3 - 4*L*l*m*x1*x3 - 2*M*l*m*x1*x3 - 2*L*m*m*x1*x3 - 2*M*m*m*x1*x3 + 4*l*m*m*x1*x3 + 2*m*m*m*x1*x3 + M*M*M*x1*x2 - M*M*l*x1*x2 - 2*L*M*m*x1*x2 - 2*M*M*m*x1*x2 + 4*L*l*m*x1*x2 + 2*M*l*m*x1*x2 + 2*L*m*m*x1*x2 + 2*M*m*m*x1*x2 - 4*l*m*m*x1*x2 - 2*m*m*m*x1*x2 + M*M*M*x3*x2 - M*M*l*x3*x2 - 2*L*M*m*x3*x2 - 2*M*M*m*x3*x2 + 4*L*l*m*x3*x2 + 4*M*l*m*x3*x2 + 2*L*m*m*x3*x2 + 4*M*m*m*x3*x2 - 2*l*m*m*x3*x2 - M*M*M*x2*x2 + M*M*l*x2*x2 + 2*L*M*m*x2*x2 + 2*M*M*m*x2*x2 - 4*L*l*m*x2*x2 - 4*M*l*m*x2*x2 - 2*L*m*m*x2*x2 - 4*M*m*m*x2*x2 + 2*l*m*m*x2*x2 - 2*M*x1*x3*x3 + 2*l*x1*x3*x3 + 2*L*M*x1*y2 + 2*M*M*x1*y2 + 4*L*l*x1*y2 + 2*M*l*x1*y2 + 6*L*m*x1*y2 - 2*M*m*x1*y2 - 2*l*m*x1*y2 - 8*m*m*x1*y2 + 2*M*M*x3*y2 - 8*L*m*x3*y2 - 8*M*m*x3*y2 + 4*m*m*x3*y2 + M*x1*x3*x2 - l*x1*x3*x2 + 2*M*x3*x3*x2 - 2*l*x3*x3*x2 - 2*L*M*y2*x2 - 2*M*M*y2*x2 - 4*L*l*y2*x2 + 2*L*m*y2*x2 + 12*M*m*y2*x2 + 4*l*m*y2*x2 + 4*m*m*y2*x2 + 4*M*x1*x2*x2 - l*x1*x2*x2 + 3*m*x1*x2*x2 - M*x3*x2*x2 + l*x3*x2*x2 - 4*M*x2*x2*x2 + l*x2*x2*x2 - 3*m*x2*x2*x2 - 4*x1*x1*y2 + 4*x1*x3*y2 + 4*x3*x3*y2 + 8*L*y2*y2 - 8*m*y2*y2 - 4*x3*y2*x2) * (xs-(l*l-x1-x2)) + (-2*M*l*l*m*x3 + 4*L*M*m*m*x3 - 2*l*l*m*m*x3 - 2*M*m*m*m*x3 + 2*m*m*m*m*x3 + 2*M*l*l*m*x2 - 4*L*M*m*m*x2 + 2*l*l*m*m*x2 + 2*M*m*m*m*x2 - 2*m*m*m*m*x2 + 2*L*m*x1*x3 + 2*M*m*x1*x3 + 4*L*m*x3*x3 - 2*M*m*x3*x3 - 6*m*m*x3*x3 + 2*M*M*M*y2 - 2*M*M*l*y2 - 2*M*l*l*y2 + 4*L*M*m*y2 - 2*M*M*m*y2 - 2*l*l*m*y2 + 8*L*m*m*y2 - 2*M*m*m*y2 + 2*l*m*m*y2 - 8*m*m*m*y2 - 2*L*m*x1*x2 - 2*M*m*x1*x2 + 2*L*m*x3*x2 + 2*M*m*x3*x2 + 3*M*M*x2*x2 - 6*L*m*x2*x2 - 6*M*m*x2*x2 + 6*m*m*x2*x2 - 6*L*x1*y2 - 2*M*x1*y2 + 4*l*x1*y2 + 6*m*x1*y2 - 4*L*x3*y2 + 2*M*x3*y2 - 2*l*x3*y2 + 4*m*x3*y2 - 2*L*y2*x2 + 6*M*y2*x2 - 2*l*y2*x2 + 2*m*y2*x2 - 3*x1*x2*x2 + 6*x3*x2*x2 + 6*x2*x2*x2 - 4*y2*y2) * (ys-(l*(x1-xs)-y1)) + (M*M*M*x3*x3 - 2*L*M*m*x3*x3 - M*M*m*x3*x3 - 2*L*m*m*x3*x3 + 2*m*m*m*x3*x3 - 2*M*M*M*x3*x2 + 4*L*M*m*x3*x2 + 2*M*M*m*x3*x2 + 4*L*m*m*x3*x2 - 4*m*m*m*x3*x2 + M*M*M*x2*x2 - 2*L*M*m*x2*x2 - M*M*m*x2*x2 - 2*L*m*m*x2*x2 + 2*m*m*m*x2*x2 + 2*M*x3*x3*x3 + 2*m*x3*x3*x3 - 2*L*M*x3*y2 - 2*M*M*x3*y2 + 2*L*m*x3*y2 - 4*M*m*x3*y2 + 2*m*m*x3*y2 - 3*M*x3*x3*x2 - 3*m*x3*x3*x2 + 2*L*M*y2*x2 + 2*M*M*y2*x2 - 2*L*m*y2*x2 + 4*M*m*y2*x2 - 2*m*m*y2*x2 - 3*M*x3*x2*x2 - 3*m*x3*x2*x2 + 4*M*x2*x2*x2 + 4*m*x2*x2*x2 + 4*L*y2*y2 - 8*M*y2*y2 - 4*m*y2*y2) * (xt-(m*m-x2-x3)) + (-M*M*x3*x3 + 2*L*m*x3*x3 + 2*M*m*x3*x3 - 2*m*m*x3*x3 + 2*M*M*x3*x2 - 4*L*m*x3*x2 - 4*M*m*x3*x2 + 4*m*m*x3*x2 - M*M*x2*x2 + 2*L*m*x2*x2 + 2*M*m*x2*x2 - 2*m*m*x2*x2 - 2*x3*x3*x3 + 2*L*x3*y2 + 2*M*x3*y2 - 2*m*x3*y2 + 3*x3*x3*x2 - 2*L*y2*x2 - 2*M*y2*x2 + 2*m*y2*x2 + 3*x3*x2*x2 - 4*x2*x2*x2 + 4*y2*y2) * (yt-(m*(x2-xt)-y2)) + (4*m*x3*y2 - 4*m*y2*x2 + 4*y2*y2) * (y5-(L*(xs-x5)-ys)) + (-4*L*m*x3*y2 + 4*M*m*x3*y2 + 4*L*m*y2*x2 - 4*M*m*y2*x2 - 4*L*y2*y2 + 4*M*y2*y2) * (x7-(M*M-x1-xt)) + (-4*m*x3*y2 + 4*m*y2*x2 - 4*y2*y2) * (y7-(M*(x1-x7)-y1)) + (-M*M*M*x3 + M*M*l*x3 + 2*L*M*m*x3 + 2*M*M*m*x3 - 4*L*l*m*x3 - 2*M*l*m*x3 - 2*L*m*m*x3 - 2*M*m*m*x3 + 4*l*m*m*x3 + 2*m*m*m*x3 + M*M*M*x2 - M*M*l*x2 - 2*L*M*m*x2 - 2*M*M*m*x2 + 4*L*l*m*x2 + 2*M*l*m*x2 + 2*L*m*m*x2 + 2*M*m*m*x2 - 4*l*m*m*x2 - 2*m*m*m*x2 - 2*M*x3*x3 + 2*l*x3*x3 + 2*L*M*y2 + 2*M*M*y2 + 4*L*l*y2 + 2*M*l*y2 + 6*L*m*y2 - 2*M*m*y2 - 2*l*m*y2 - 8*m*m*y2 + M*x3*x2 - l*x3*x2 + 4*M*x2*x2 - l*x2*x2 + 3*m*x2*x2 - 4*x1*y2 + 4*x3*y2) * (l*(y1+y2)-(x1*x1+x1*x2+x2*x2)) + (M*M*M*x3 - 2*L*M*m*x3 - M*M*m*x3 + 4*L*l*m*x3 + 2*M*l*m*x3 + 2*L*m*m*x3 + 2*M*m*m*x3 - 2*l*m*m*x3 - M*M*M*x2 + 2*L*M*m*x2 + M*M*m*x2 - 4*L*l*m*x2 - 2*M*l*m*x2 - 2*L*m*m*x2 - 2*M*m*m*x2 + 2*l*m*m*x2 + 2*M*x3*x3 + 2*m*x3*x3 - 2*L*M*y2 + 2*M*M*y2 - 4*L*l*y2 + 2*M*l*y2 - 6*L*m*y2 - 2*M*m*y2 + 6*l*m*y2 + 6*m*m*y2 - M*x3*x2 - m*x3*x2 - 4*M*x2*x2 - 4*m*x2*x2 - 2*x1*y2 + 4*x3*y2 + 4*y2*x2) * (m*(y2+y3)-(x2*x2+x2*x3+x3*x3)) + (-2*L*M*l*m*x3 - 2*M*l*l*m*x3 + 2*L*M*m*m*x3 - 2*L*l*m*m*x3 - 2*l*l*m*m*x3 - 2*L*m*m*m*x3 - 2*M*m*m*m*x3 + 2*m*m*m*m*x3 + 2*L*M*l*m*x2 + 2*M*l*l*m*x2 - 2*L*M*m*m*x2 + 2*L*l*m*m*x2 + 2*l*l*m*m*x2 + 2*L*m*m*m*x2 + 2*M*m*m*m*x2 - 2*m*m*m*m*x2 + 2*L*m*x1*x3 + 2*M*m*x1*x3 + 4*L*m*x3*x3 - 2*M*m*x3*x3 - 6*m*m*x3*x3 - 2*L*M*M*y2 + 2*M*M*M*y2 - 2*L*M*l*y2 - 2*M*M*l*y2 - 2*M*l*l*y2 + 2*L*M*m*y2 - 2*M*M*m*y2 - 2*L*l*m*y2 - 2*l*l*m*y2 + 8*L*m*m*y2 - 2*M*m*m*y2 + 2*l*m*m*y2 - 8*m*m*m*y2 - 2*L*m*x1*x2 - 2*M*m*x1*x2 + 2*L*m*x3*x2 + 2*M*m*x3*x2 + 3*M*M*x2*x2 - 6*L*m*x2*x2 - 6*M*m*x2*x2 + 6*m*m*x2*x2 - 2*L*x1*y2 - 2*M*x1*y2 + 4*l*x1*y2 + 6*m*x1*y2 - 6*L*x3*y2 + 2*M*x3*y2 - 2*l*x3*y2 + 8*m*x3*y2 - 4*L*y2*x2 + 6*M*y2*x2 - 2*l*y2*x2 - 2*m*y2*x2 - 3*x1*x2*x2 + 6*x3*x2*x2 + 6*x2*x2*x2) * (L*(xs-x3)-(ys-y3)) + (-2*M*l*m*x3 - 2*M*m*m*x3 - 2*l*m*m*x3 - 2*m*m*m*x3 + 2*M*l*m*x2 + 2*M*m*m*x2 + 2*l*m*m*x2 + 2*m*m*m*x2 - 2*M*M*y2 - 2*M*l*y2 - 2*M*m*y2 - 2*l*m*y2 + 4*x1*y2 - 2*x3*y2 - 2*y2*x2) * (L*(ys+y3)-(xs*xs+xs*x3+x3*x3)) + (M*M*x3*x3 - 2*L*m*x3*x3 - 2*M*m*x3*x3 + 2*m*m*x3*x3 - 2*M*M*x3*x2 + 4*L*m*x3*x2 + 4*M*m*x3*x2 - 4*m*m*x3*x2 + M*M*x2*x2 - 2*L*m*x2*x2 - 2*M*m*x2*x2 + 2*m*m*x2*x2 + 2*x3*x3*x3 - 2*L*x3*y2 - 2*M*x3*y2 + 2*m*x3*y2 - 3*x3*x3*x2 + 2*L*y2*x2 + 2*M*y2*x2 - 2*m*y2*x2 - 3*x3*x2*x2 + 4*x2*x2*x2 - 4*y2*y2) * (M*(x1-xt)-(y1-yt)) + (2*L*L*M*l*m*x3 + 2*L*M*l*l*m*x3 - 2*L*L*M*m*m*x3 + 2*L*L*l*m*m*x3 - 4*L*M*l*m*m*x3 + 2*L*l*l*m*m*x3 - 2*M*l*l*m*m*x3 + 2*L*L*m*m*m*x3 + 2*L*M*m*m*m*x3 + 2*M*l*m*m*m*x3 - 2*l*l*m*m*m*x3 - 2*L*m*m*m*m*x3 - 2*l*m*m*m*m*x3 - 2*L*L*M*l*m*x2 - 2*L*M*l*l*m*x2 + 2*L*L*M*m*m*x2 - 2*L*L*l*m*m*x2 + 4*L*M*l*m*m*x2 - 2*L*l*l*m*m*x2 + 2*M*l*l*m*m*x2 - 2*L*L*m*m*m*x2 - 2*L*M*m*m*m*x2 - 2*M*l*m*m*m*x2 + 2*l*l*m*m*m*x2 + 2*L*m*m*m*m*x2 + 2*l*m*m*m*m*x2 + M*M*M*x1*x3 - M*M*l*x1*x3 - 2*L*L*m*x1*x3 - 4*L*M*m*x1*x3 - 2*M*M*m*x1*x3 + 2*L*l*m*x1*x3 + 2*M*l*m*x1*x3 + 2*L*m*m*x1*x3 + 4*M*m*m*x1*x3 - 2*l*m*m*x1*x3 - 4*L*L*m*x3*x3 + 2*L*M*m*x3*x3 - 4*L*l*m*x3*x3 + 6*L*m*m*x3*x3 - 2*M*m*m*x3*x3 + 4*l*m*m*x3*x3 - 2*m*m*m*x3*x3 + 2*L*L*M*M*y2 - 2*L*M*M*M*y2 + 2*L*L*M*l*y2 + 2*L*M*M*l*y2 - 2*M*M*M*l*y2 + 2*L*M*l*l*y2 - 2*L*L*M*m*y2 + 2*L*M*M*m*y2 + 2*L*L*l*m*y2 - 4*L*M*l*m*y2 + 2*M*M*l*m*y2 + 2*L*l*l*m*y2 - 2*M*l*l*m*y2 - 8*L*L*m*m*y2 + 2*L*M*m*m*y2 - 10*L*l*m*m*y2 + 2*M*l*m*m*y2 - 2*l*l*m*m*y2 + 8*L*m*m*m*y2 + 8*l*m*m*m*y2 - M*M*M*x1*x2 + M*M*l*x1*x2 + 2*L*L*m*x1*x2 + 4*L*M*m*x1*x2 + 2*M*M*m*x1*x2 - 2*L*l*m*x1*x2 - 2*M*l*m*x1*x2 - 2*L*m*m*x1*x2 - 4*M*m*m*x1*x2 + 2*l*m*m*x1*x2 - M*M*M*x3*x2 + M*M*l*x3*x2 - 2*L*L*m*x3*x2 + 2*M*M*m*x3*x2 - 6*L*l*m*x3*x2 - 2*M*l*m*x3*x2 - 2*L*m*m*x3*x2 + 6*l*m*m*x3*x2 + 4*m*m*m*x3*x2 - 3*L*M*M*x2*x2 + M*M*M*x2*x2 - 4*M*M*l*x2*x2 + 6*L*L*m*x2*x2 + 4*L*M*m*x2*x2 - 2*M*M*m*x2*x2 + 10*L*l*m*x2*x2 + 8*M*l*m*x2*x2 - 4*L*m*m*x2*x2 + 2*M*m*m*x2*x2 - 10*l*m*m*x2*x2 - 2*m*m*m*x2*x2 + 2*M*x1*x3*x3 - 2*l*x1*x3*x3 + 2*L*L*x1*y2 - 2*L*l*x1*y2 + 2*M*l*x1*y2 - 12*L*m*x1*y2 + 4*M*m*x1*y2 - 2*l*m*x1*y2 + 8*m*m*x1*y2 + 6*L*L*x3*y2 - 2*L*M*x3*y2 - 4*M*M*x3*y2 + 6*L*l*x3*y2 - 4*M*l*x3*y2 + 4*L*m*x3*y2 + 6*M*m*x3*y2 - 6*l*m*x3*y2 - 4*m*m*x3*y2 - M*x1*x3*x2 + l*x1*x3*x2 - 2*M*x3*x3*x2 + 2*l*x3*x3*x2 + 4*L*L*y2*x2 - 4*L*M*y2*x2 + 4*M*M*y2*x2 + 8*L*l*y2*x2 - 4*M*l*y2*x2 - 4*L*m*y2*x2 - 10*M*m*y2*x2 - 4*l*m*y2*x2 - 4*m*m*y2*x2 + 3*L*x1*x2*x2 - 4*M*x1*x2*x2 + 4*l*x1*x2*x2 - 3*m*x1*x2*x2 - 6*L*x3*x2*x2 + M*x3*x2*x2 - 7*l*x3*x2*x2 - 6*L*x2*x2*x2 + 4*M*x2*x2*x2 - 7*l*x2*x2*x2 + 3*m*x2*x2*x2 + 2*x1*x3*y2 - 6*x3*x3*y2 - 4*L*y2*y2 + 4*l*y2*y2 + 8*m*y2*y2 - 2*x1*y2*x2 + 4*x3*y2*x2 + 2*y2*x2*x2) * (xs-x3) + (-4*L*m*x3*y2 + 4*L*m*y2*x2 - 4*L*y2*y2) * (x5-x7) := by grind
theorem ass_1y {p y7 x7 y5 x5 yt xt ys xs y1 y3 L M l m x1 x3 y2 x2 : Int} (h0 : p ∣ l*(x1-x2)-(y1-y2)) (h1 : p ∣ m*(x2-x3)-(y2-y3)) (h2 : p ∣ xs-(l*l-x1-x2)) (h3 : p ∣ ys-(l*(x1-xs)-y1)) (h4 : p ∣ xt-(m*m-x2-x3)) (h5 : p ∣ yt-(m*(x2-xt)-y2)) (h6 : p ∣ y5-(L*(xs-x5)-ys)) (h7 : p ∣ x7-(M*M-x1-xt)) (h8 : p ∣ y7-(M*(x1-x7)-y1)) (h9 : p ∣ l*(y1+y2)-(x1*x1+x1*x2+x2*x2)) (h10 : p ∣ m*(y2+y3)-(x2*x2+x2*x3+x3*x3)) (h11 : p ∣ L*(xs-x3)-(ys-y3)) (h12 : p ∣ L*(ys+y3)-(xs*xs+xs*x3+x3*x3)) (h13 : p ∣ M*(x1-xt)-(y1-yt)) (h14 : p ∣ xs-x3) (h15 : p ∣ x5-x7) : p ∣ 4 * (y2*y3) * (y5-y7) := by
  rw [ass_1y_e y7 x7 y5 x5 yt xt ys xs y1 y3 L M l m x1 x3 y2 x2]
  exact (Int.dvd_add (Int.dvd_add (Int.dvd_add (Int.dvd_add (Int.dvd_add (Int.dvd_add (Int.dvd_add (Int.dvd_add (Int.dvd_add (Int.dvd_add (Int.dvd_add (Int.dvd_add (Int.dvd_add (Int.dvd_add (Int.dvd_add (Int.dvd_trans h0 (Int.dvd_mul_left ..)) (Int.dvd_trans h1 (Int.dvd_mul_left ..))) (Int.dvd_trans h2 (Int.dvd_mul_left ..))) (Int.dvd_trans h3 (Int.dvd_mul_left ..))) (Int.dvd_trans h4 (Int.dvd_mul_left ..))) (Int.dvd_trans h5 (Int.dvd_mul_left ..))) (Int.dvd_trans h6 (Int.dvd_mul_left ..))) (Int.dvd_trans h7 (Int.dvd_mul_left ..))) (Int.dvd_trans h8 (Int.dvd_mul_left ..))) (Int.dvd_trans h9 (Int.dvd_mul_left ..))) (Int.dvd_trans h10 (Int.dvd_mul_left ..))) (Int.dvd_trans h11 (Int.dvd_mul_left ..))) (Int.dvd_trans h12 (Int.dvd_mul_left ..))) (Int.dvd_trans h13 (Int.dvd_mul_left ..))) (Int.dvd_trans h14 (Int.dvd_mul_left ..))) (Int.dvd_trans h15 (Int.dvd_mul_left ..)))

end Go.Proofs.Ytkedomfjjahjnaa

/- Plain laws of a curve's points: the sum and its laws of a group. No statement of a seat is proved here. -/
namespace Go.Proofs.Ytkedomfjjahjnaa

theorem Pr.euclidZ {p : Nat} (h : Pr p) {a b : Int} (hd : (p : Int) ∣ a * b) : (p : Int) ∣ a ∨ (p : Int) ∣ b := by
  rw [Int.ofNat_dvd_left, Int.natAbs_mul] at hd
  rcases h.euclid hd with h1 | h1
  · exact .inl (Int.ofNat_dvd_left.2 h1)
  · exact .inr (Int.ofNat_dvd_left.2 h1)

/-- The remainder of a whole number. -/
def nm (p : Nat) (z : Int) : Nat := (z % (p : Int)).toNat
theorem nm_cast {p : Nat} (hp : 0 < p) (z : Int) : ((nm p z : Nat) : Int) = z % (p : Int) := by
  unfold nm
  have := Int.emod_nonneg z (show (p : Int) ≠ 0 by omega)
  omega
theorem nm_dvd {p : Nat} (hp : 0 < p) (z : Int) : (p : Int) ∣ ((nm p z : Nat) : Int) - z := by
  rw [nm_cast hp]
  have := Int.emod_add_mul_ediv z p
  exact ⟨-(z / p), by grind⟩
theorem nm_lt {p : Nat} (hp : 0 < p) (z : Int) : nm p z < p := by
  have h := nm_cast hp z
  have := Int.emod_lt_of_pos z (show (0 : Int) < p by omega)
  omega
theorem same_of {p a b : Nat} (ha : a < p) (hb : b < p) (h : (p : Int) ∣ (a : Int) - (b : Int)) : a = b := by
  obtain ⟨k, hk⟩ := h
  have hpk : (p : Int) * k < p * 1 ∧ (p : Int) * (-1) < p * k := by constructor <;> omega
  have h1 := Int.lt_of_mul_lt_mul_left hpk.1 (by omega)
  have h2 := Int.lt_of_mul_lt_mul_left hpk.2 (by omega)
  have : k = 0 := by omega
  subst this
  omega
theorem nm_same {p : Nat} (hp : 0 < p) {a b : Int} (h : (p : Int) ∣ a - b) : nm p a = nm p b := by
  refine same_of (nm_lt hp a) (nm_lt hp b) ?_
  obtain ⟨k, hk⟩ := h
  obtain ⟨k1, h1⟩ := nm_dvd hp a
  obtain ⟨k2, h2⟩ := nm_dvd hp b
  exact ⟨k + k1 - k2, by grind⟩
theorem nm_of {p a : Nat} {z : Int} (ha : a < p) (h : (p : Int) ∣ (a : Int) - z) : nm p z = a := by
  have hp : 0 < p := by omega
  refine same_of (nm_lt hp z) ha ?_
  obtain ⟨k, hk⟩ := h
  obtain ⟨k2, h2⟩ := nm_dvd hp z
  exact ⟨k2 - k, by grind⟩

/-- 1 by a number. -/
def invZ (p : Nat) (a : Int) : Int := ((nm p a ^ (p - 2) : Nat) : Int)
theorem invZ_of {p : Nat} (h : Pr p) {a : Int} (ha : ¬ (p : Int) ∣ a) : (p : Int) ∣ a * invZ p a - 1 := by
  have hp := h.pos
  have h2 := h.1
  obtain ⟨k, hk⟩ := nm_dvd hp a
  have hn : ¬ p ∣ nm p a := fun hd => by
    obtain ⟨c, hc⟩ := Int.natCast_dvd_natCast.2 hd
    exact ha ⟨c - k, by grind⟩
  have hf := fermat h hn
  have e : nm p a ^ (p - 1) = nm p a * nm p a ^ (p - 2) := by
    rw [show p - 1 = (p - 2) + 1 by omega, Nat.pow_succ, Nat.mul_comm]
  rw [e] at hf
  have hd := Nat.div_add_mod (nm p a * nm p a ^ (p - 2)) p
  rw [hf] at hd
  unfold invZ
  generalize nm p a ^ (p - 2) = i at *
  have hd2 : ((p : Nat) : Int) * ((nm p a * i / p : Nat) : Int) + 1 = (nm p a : Int) * (i : Int) := by
    have := congrArg (fun n : Nat => (n : Int)) hd
    simp only [Int.natCast_add, Int.natCast_mul] at this
    exact this
  exact ⟨((nm p a * i / p : Nat) : Int) - k * i, by grind⟩

/-- A curve over a prime field, without a point of order two. -/
structure Cur (p b : Nat) : Prop where
  pr : Pr p
  big : 5 ≤ p
  n2 : ∀ x : Int, ¬ (p : Int) ∣ x * x * x + b

theorem Cur.pos {p b : Nat} (c : Cur p b) : 0 < p := c.pr.pos
theorem Cur.no2 {p b : Nat} (c : Cur p b) : ¬ (p : Int) ∣ 2 := fun h => by
  have := Int.le_of_dvd (by decide) h
  have := c.big
  omega
theorem Cur.no3 {p b : Nat} (c : Cur p b) : ¬ (p : Int) ∣ 3 := fun h => by
  have := Int.le_of_dvd (by decide) h
  have := c.big
  omega
theorem Cur.no4 {p b : Nat} (c : Cur p b) : ¬ (p : Int) ∣ 4 := fun h => by
  have := Int.le_of_dvd (by decide) h
  have := c.big
  omega

abbrev Cv (p b : Nat) (x y : Int) : Prop := (p : Int) ∣ y * y - x * x * x - b
theorem Cur.yne {p b : Nat} (c : Cur p b) {x y : Int} (h : Cv p b x y) : ¬ (p : Int) ∣ y := fun hy => by
  obtain ⟨k, hk⟩ := h
  obtain ⟨m, hm⟩ := hy
  exact c.n2 x ⟨m * y - k, by grind⟩

abbrev PtQ : Type := Option (Nat × Nat)
def OnQ (p b : Nat) : PtQ → Prop
  | none => True
  | some P => P.1 < p ∧ P.2 < p ∧ Cv p b P.1 P.2

structure Lin (p : Nat) (x1 y1 x2 y2 l : Int) : Prop where
  a : (p : Int) ∣ l * (x1 - x2) - (y1 - y2)
  b : (p : Int) ∣ l * (y1 + y2) - (x1 * x1 + x1 * x2 + x2 * x2)
structure Thd (p : Nat) (x1 y1 x2 l x3 y3 : Int) : Prop where
  x : (p : Int) ∣ x3 - (l * l - x1 - x2)
  y : (p : Int) ∣ y3 - (l * (x1 - x3) - y1)

def slopeQ (p : Nat) (P R : Nat × Nat) : Int := if P.1 = R.1 then 3 * P.1 * P.1 * invZ p (P.2 + P.2) else ((R.2 : Int) - P.2) * invZ p ((R.1 : Int) - P.1)
def thirdQ (p : Nat) (P R : Nat × Nat) (l : Int) : Nat × Nat := (nm p (l * l - P.1 - R.1), nm p (l * (P.1 - nm p (l * l - P.1 - R.1)) - P.2))
/-- The sum of points. -/
def addQ (p : Nat) : PtQ → PtQ → PtQ
  | none, R => R
  | some P, none => some P
  | some P, some R => if P.1 = R.1 ∧ P.2 ≠ R.2 then none else some (thirdQ p P R (slopeQ p P R))
def negQ (p : Nat) : PtQ → PtQ
  | none => none
  | some P => some (P.1, nm p (-P.2))

variable {p b : Nat}

theorem slope_lin (c : Cur p b) {P R : Nat × Nat} (hP : OnQ p b (some P)) (hR : OnQ p b (some R)) (h : ¬(P.1 = R.1 ∧ P.2 ≠ R.2)) : Lin p P.1 P.2 R.1 R.2 (slopeQ p P R) := by
  obtain ⟨x1, y1⟩ := P
  obtain ⟨x2, y2⟩ := R
  obtain ⟨hx1, hy1, hc1⟩ := hP
  obtain ⟨hx2, hy2, hc2⟩ := hR
  dsimp only at *
  unfold slopeQ
  dsimp only
  by_cases e : x1 = x2
  · have e2 : y1 = y2 := Classical.byContradiction fun h2 => h ⟨e, h2⟩
    subst e e2
    rw [if_pos rfl]
    have hn : ¬ (p : Int) ∣ (y1 : Int) + y1 := fun hd => by
      rw [← Int.two_mul] at hd
      rcases c.pr.euclidZ hd with h1 | h1
      · exact c.no2 h1
      · exact c.yne hc1 h1
    obtain ⟨k, hk⟩ := invZ_of c.pr hn
    generalize invZ p ((y1 : Int) + y1) = i at *
    exact ⟨⟨0, by grind⟩, ⟨3 * x1 * x1 * k, by grind⟩⟩
  · rw [if_neg e]
    have hn : ¬ (p : Int) ∣ (x2 : Int) - x1 := fun hd => e (same_of hx2 hx1 hd).symm
    have hn' : ¬ (p : Int) ∣ (x1 : Int) - x2 := fun ⟨k, hk⟩ => hn ⟨-k, by grind⟩
    obtain ⟨k, hk⟩ := invZ_of c.pr hn
    generalize invZ p ((x2 : Int) - x1) = i at *
    have ha : (p : Int) ∣ ((y2 : Int) - y1) * i * ((x1 : Int) - x2) - (y1 - y2) := ⟨(y1 - y2) * k, by grind⟩
    refine ⟨ha, ?_⟩
    have hc1' : (p : Int) ∣ (y1 : Int) * y1 - x1 * x1 * x1 - b := hc1
    have hc2' : (p : Int) ∣ (y2 : Int) * y2 - x2 * x2 * x2 - b := hc2
    rcases c.pr.euclidZ (chord_b hc1' hc2' ha) with h1 | h1
    · exact absurd h1 hn'
    · exact h1

theorem lin_same (c : Cur p b) {x1 y1 x2 y2 l m : Int} (hy : ¬ (p : Int) ∣ y1) (h1 : Lin p x1 y1 x2 y2 l) (h2 : Lin p x1 y1 x2 y2 m) : (p : Int) ∣ l - m := by
  obtain ⟨k1, e1⟩ := h1.a
  obtain ⟨k2, e2⟩ := h2.a
  obtain ⟨k3, e3⟩ := h1.b
  obtain ⟨k4, e4⟩ := h2.b
  rcases c.pr.euclidZ (a := l - m) (b := x1 - x2) ⟨k1 - k2, by grind⟩ with h | h
  · exact h
  · rcases c.pr.euclidZ (a := l - m) (b := y1 + y2) ⟨k3 - k4, by grind⟩ with h' | h'
    · exact h'
    · obtain ⟨m1, f1⟩ := h
      obtain ⟨m2, f2⟩ := h'
      rcases c.pr.euclidZ (a := 2) (b := y1) ⟨l * m1 - k1 + m2, by grind⟩ with h3 | h3
      · exact absurd h3 c.no2
      · exact absurd h3 hy

/-- A sum, by any slope that is right. -/
theorem sum_of (c : Cur p b) {P R S : Nat × Nat} {l : Int} (hP : OnQ p b (some P)) (hR : OnQ p b (some R)) (hl : Lin p P.1 P.2 R.1 R.2 l) (hS1 : S.1 < p) (hS2 : S.2 < p)
    (ht : Thd p P.1 P.2 R.1 l S.1 S.2) : addQ p (some P) (some R) = some S := by
  have hn : ¬(P.1 = R.1 ∧ P.2 ≠ R.2) := fun ⟨e1, e2⟩ => by
    obtain ⟨k, hk⟩ := hl.a
    rw [e1] at hk
    exact e2 (same_of hP.2.1 hR.2.1 ⟨-k, by grind⟩)
  have hs := slope_lin c hP hR hn
  obtain ⟨k, hk⟩ := lin_same c (c.yne hP.2.2) hs hl
  have : addQ p (some P) (some R) = some (thirdQ p P R (slopeQ p P R)) := if_neg hn
  rw [this]
  congr 1
  generalize slopeQ p P R = s at *
  obtain ⟨k1, h1⟩ := ht.x
  obtain ⟨k2, h2⟩ := ht.y
  have ex : nm p (s * s - P.1 - R.1) = S.1 := nm_of hS1 ⟨k1 - k * (s + l), by grind⟩
  unfold thirdQ
  rw [ex]
  have ey : nm p (s * ((P.1 : Int) - S.1) - P.2) = S.2 := nm_of hS2 ⟨k2 - k * (P.1 - S.1), by grind⟩
  rw [ey]

theorem of_sum (c : Cur p b) {P R S : Nat × Nat} (hP : OnQ p b (some P)) (hR : OnQ p b (some R)) (h : addQ p (some P) (some R) = some S) :
    S.1 < p ∧ S.2 < p ∧ ∃ l, Lin p P.1 P.2 R.1 R.2 l ∧ Thd p P.1 P.2 R.1 l S.1 S.2 := by
  by_cases hn : P.1 = R.1 ∧ P.2 ≠ R.2
  · have : addQ p (some P) (some R) = none := if_pos hn
    rw [this] at h
    cases h
  · have hs := slope_lin c hP hR hn
    have : addQ p (some P) (some R) = some (thirdQ p P R (slopeQ p P R)) := if_neg hn
    rw [this] at h
    cases h
    exact ⟨nm_lt c.pos _, nm_lt c.pos _, _, hs, nm_dvd c.pos _, nm_dvd c.pos _⟩

theorem on_neg (c : Cur p b) {P : PtQ} (h : OnQ p b P) : OnQ p b (negQ p P) := by
  cases P with
  | none => trivial
  | some P =>
    obtain ⟨k, hk⟩ := nm_dvd c.pos (-(P.2 : Int))
    obtain ⟨m, hm⟩ := h.2.2
    exact ⟨h.1, nm_lt c.pos _, ⟨m + k * ((nm p (-(P.2 : Int)) : Int) - P.2), by show ((nm p (-(P.2 : Int)) : Nat) : Int) * (nm p (-(P.2 : Int)) : Nat) - (P.1 : Int) * P.1 * P.1 - b = _; grind⟩⟩

theorem on_add (c : Cur p b) {P R : PtQ} (hP : OnQ p b P) (hR : OnQ p b R) : OnQ p b (addQ p P R) := by
  cases P with
  | none => exact hR
  | some P =>
    cases R with
    | none => exact hP
    | some R =>
      cases h : addQ p (some P) (some R) with
      | none => trivial
      | some S =>
        obtain ⟨h1, h2, l, hl, ht⟩ := of_sum c hP hR h
        exact ⟨h1, h2, thd_on ht.y ht.x hl.a hl.b hP.2.2⟩

/-- Two points of one X. -/
theorem opp_of (c : Cur p b) {P R : Nat × Nat} (hP : OnQ p b (some P)) (hR : OnQ p b (some R)) (h : P.1 = R.1 ∧ P.2 ≠ R.2) : some R = negQ p (some P) := by
  obtain ⟨x1, y1⟩ := P
  obtain ⟨x2, y2⟩ := R
  obtain ⟨hx1, hy1, hc1⟩ := hP
  obtain ⟨hx2, hy2, hc2⟩ := hR
  dsimp only at *
  obtain ⟨rfl, hne⟩ := h
  obtain ⟨k1, e1⟩ := hc1
  obtain ⟨k2, e2⟩ := hc2
  rcases c.pr.euclidZ (a := (y1 : Int) - y2) (b := (y1 : Int) + y2) ⟨k1 - k2, by grind⟩ with h | h
  · exact absurd (same_of hy1 hy2 h) hne
  · obtain ⟨k, hk⟩ := h
    have : nm p (-(y1 : Int)) = y2 := nm_of hy2 ⟨k, by grind⟩
    show _ = some (x1, nm p (-(y1 : Int)))
    rw [this]

theorem add_none (P : PtQ) : addQ p P none = P := by cases P <;> rfl
theorem none_add (P : PtQ) : addQ p none P = P := rfl

theorem add_neg (c : Cur p b) {P : PtQ} (hP : OnQ p b P) : addQ p P (negQ p P) = none := by
  cases P with
  | none => rfl
  | some P =>
    refine if_pos ⟨rfl, fun e => ?_⟩
    have e : P.2 = nm p (-(P.2 : Int)) := e
    obtain ⟨k, hk⟩ := nm_dvd c.pos (-(P.2 : Int))
    rw [← e] at hk
    rcases c.pr.euclidZ (a := 2) (b := (P.2 : Int)) ⟨k, by grind⟩ with h | h
    · exact c.no2 h
    · exact c.yne hP.2.2 h

theorem neg_neg (c : Cur p b) {P : PtQ} (hP : OnQ p b P) : negQ p (negQ p P) = P := by
  cases P with
  | none => rfl
  | some P =>
    obtain ⟨k, hk⟩ := nm_dvd c.pos (-(P.2 : Int))
    have : nm p (-((nm p (-(P.2 : Int)) : Nat) : Int)) = P.2 := nm_of hP.2.1 ⟨k, by grind⟩
    show some (P.1, nm p (-((nm p (-(P.2 : Int)) : Nat) : Int))) = _
    rw [this]

theorem add_comm (c : Cur p b) {P R : PtQ} (hP : OnQ p b P) (hR : OnQ p b R) : addQ p P R = addQ p R P := by
  cases P with
  | none => exact (add_none R).symm
  | some P =>
    cases R with
    | none => rfl
    | some R =>
      cases h : addQ p (some P) (some R) with
      | none =>
        by_cases hn : P.1 = R.1 ∧ P.2 ≠ R.2
        · exact (if_pos ⟨hn.1.symm, fun e => hn.2 e.symm⟩).symm
        · have : addQ p (some P) (some R) = some (thirdQ p P R (slopeQ p P R)) := if_neg hn
          rw [this] at h
          cases h
      | some S =>
        obtain ⟨h1, h2, l, hl, ht⟩ := of_sum c hP hR h
        obtain ⟨k1, e1⟩ := hl.a
        obtain ⟨k2, e2⟩ := hl.b
        obtain ⟨k3, e3⟩ := ht.x
        exact (sum_of c hR hP (l := l) ⟨⟨-k1, by grind⟩, ⟨k2, by grind⟩⟩ h1 h2 ⟨⟨k3, by grind⟩, thd_sym ht.y hl.a⟩).symm

theorem neg_b {p l x1 x2 y1 y2 z1 z2 k2 k5 k6 : Int} (e2 : l * (y1 + y2) - (x1 * x1 + x1 * x2 + x2 * x2) = p * k2) (e5 : z1 - -y1 = p * k5) (e6 : z2 - -y2 = p * k6) :
    -l * (z1 + z2) - (x1 * x1 + x1 * x2 + x2 * x2) = p * (k2 - l * (k5 + k6)) := by grind
theorem back_c {p l x1 x3 y1 y3 z1 k2 k5 : Int} (e2 : -l * (-y1 + y3) - (x1 * x1 + x1 * x3 + x3 * x3) = p * k2) (e5 : z1 - -y1 = p * k5) :
    -l * (z1 + y3) - (x1 * x1 + x1 * x3 + x3 * x3) = p * (k2 - l * k5) := by grind

theorem neg_add (c : Cur p b) {P R : PtQ} (hP : OnQ p b P) (hR : OnQ p b R) : negQ p (addQ p P R) = addQ p (negQ p P) (negQ p R) := by
  cases P with
  | none => rfl
  | some P =>
    cases R with
    | none => rfl
    | some R =>
      have hP' := on_neg c hP
      have hR' := on_neg c hR
      obtain ⟨k5, e5⟩ := nm_dvd c.pos (-(P.2 : Int))
      obtain ⟨k6, e6⟩ := nm_dvd c.pos (-(R.2 : Int))
      cases h : addQ p (some P) (some R) with
      | none =>
        by_cases hn : P.1 = R.1 ∧ P.2 ≠ R.2
        · have := opp_of c hP hR hn
          rw [this, add_neg c hP']
          rfl
        · have : addQ p (some P) (some R) = some (thirdQ p P R (slopeQ p P R)) := if_neg hn
          rw [this] at h
          cases h
      | some S =>
        obtain ⟨h1, h2, l, hl, ht⟩ := of_sum c hP hR h
        obtain ⟨k1, e1⟩ := hl.a
        obtain ⟨k2, e2⟩ := hl.b
        obtain ⟨k3, e3⟩ := ht.x
        obtain ⟨k4, e4⟩ := ht.y
        obtain ⟨k7, e7⟩ := nm_dvd c.pos (-(S.2 : Int))
        have g1 : Lin p ((P.1 : Nat) : Int) ((nm p (-(P.2 : Int)) : Nat) : Int) ((R.1 : Nat) : Int) ((nm p (-(R.2 : Int)) : Nat) : Int) (-l) :=
          ⟨⟨-k1 - k5 + k6, by grind⟩, ⟨k2 - l * (k5 + k6), neg_b e2 e5 e6⟩⟩
        have g2 : Thd p ((P.1 : Nat) : Int) ((nm p (-(P.2 : Int)) : Nat) : Int) ((R.1 : Nat) : Int) (-l) ((S.1 : Nat) : Int) ((nm p (-(S.2 : Int)) : Nat) : Int) :=
          ⟨⟨k3, by grind⟩, ⟨-k4 + k7 + k5, by grind⟩⟩
        exact (sum_of c (P := (P.1, nm p (-(P.2 : Int)))) (R := (R.1, nm p (-(R.2 : Int)))) (S := (S.1, nm p (-(S.2 : Int)))) hP' hR' g1 h1 (nm_lt c.pos _) g2).symm

/-- What is added is taken away. -/
theorem cancel (c : Cur p b) {P R : PtQ} (hP : OnQ p b P) (hR : OnQ p b R) : addQ p (negQ p P) (addQ p P R) = R := by
  cases P with
  | none => rfl
  | some P =>
    have hP' := on_neg c hP
    cases R with
    | none =>
      rw [add_none, add_comm c hP' hP, add_neg c hP]
    | some R =>
      cases h : addQ p (some P) (some R) with
      | none =>
        by_cases hn : P.1 = R.1 ∧ P.2 ≠ R.2
        · rw [add_none]
          exact (opp_of c hP hR hn).symm
        · have : addQ p (some P) (some R) = some (thirdQ p P R (slopeQ p P R)) := if_neg hn
          rw [this] at h
          cases h
      | some S =>
        have hS := on_add c hP hR
        rw [h] at hS
        obtain ⟨h1, h2, l, hl, ht⟩ := of_sum c hP hR h
        obtain ⟨k1, e1⟩ := hl.a
        obtain ⟨k2, e2⟩ := back_b ht.y ht.x hl.a hl.b
        obtain ⟨k3, e3⟩ := ht.x
        obtain ⟨k4, e4⟩ := ht.y
        obtain ⟨k5, e5⟩ := nm_dvd c.pos (-(P.2 : Int))
        have g1 : Lin p ((P.1 : Nat) : Int) ((nm p (-(P.2 : Int)) : Nat) : Int) ((S.1 : Nat) : Int) ((S.2 : Nat) : Int) (-l) :=
          ⟨⟨k4 - k5, by grind⟩, ⟨k2 - l * k5, back_c e2 e5⟩⟩
        have g2 : Thd p ((P.1 : Nat) : Int) ((nm p (-(P.2 : Int)) : Nat) : Int) ((S.1 : Nat) : Int) (-l) ((R.1 : Nat) : Int) ((R.2 : Nat) : Int) :=
          ⟨⟨k3, by grind⟩, ⟨k1 + k5, by grind⟩⟩
        exact sum_of c (P := (P.1, nm p (-(P.2 : Int)))) hP' hS g1 hR.1 hR.2.1 g2

theorem none_of (c : Cur p b) {P R : PtQ} (hP : OnQ p b P) (hR : OnQ p b R) (h : addQ p P R = none) : R = negQ p P := by
  have := cancel c hP hR
  rw [h, add_none] at this
  exact this.symm

theorem out_two (c : Cur p b) {u v z : Int} (hu : ¬ (p : Int) ∣ u) (hv : ¬ (p : Int) ∣ v) (h : (p : Int) ∣ u * v * z) : (p : Int) ∣ z := by
  rcases c.pr.euclidZ h with h | h
  · rcases c.pr.euclidZ h with h | h
    · exact absurd h hu
    · exact absurd h hv
  · exact h
theorem out_four (c : Cur p b) {z : Int} (h : (p : Int) ∣ 4 * z) : (p : Int) ∣ z := (c.pr.euclidZ h).resolve_left c.no4
theorem pair_of {X Y : Nat × Nat} (h1 : X.1 = Y.1) (h2 : X.2 = Y.2) : X = Y := by
  obtain ⟨X1, X2⟩ := X
  obtain ⟨Y1, Y2⟩ := Y
  dsimp only at h1 h2
  rw [h1, h2]
/-- Where the second sum is of a point to itself. -/
theorem assoc_same (c : Cur p b) {P1 P2 P3 S T X Y : Nat × Nat} (h1 : OnQ p b (some P1)) (h2 : OnQ p b (some P2)) (h3 : OnQ p b (some P3)) (hS : addQ p (some P1) (some P2) = some S) (hT : addQ p (some P2) (some P3) = some T)
    (hX : addQ p (some S) (some P3) = some X) (hY : addQ p (some P1) (some T) = some Y) (d1 : (p : Int) ∣ (S.1 : Int) - P3.1) : X = Y := by
  have oS := on_add c h1 h2
  have oT := on_add c h2 h3
  rw [hS] at oS
  rw [hT] at oT
  obtain ⟨hS1, hS2, l, l1, l2⟩ := of_sum c h1 h2 hS
  obtain ⟨hT1, hT2, m, m1, m2⟩ := of_sum c h2 h3 hT
  obtain ⟨hX1, hX2, L, L1, L2⟩ := of_sum c oS h3 hX
  obtain ⟨hY1, hY2, M, M1, M2⟩ := of_sum c h1 oT hY
  have n2 := c.yne h2.2.2
  have n3 := c.yne h3.2.2
  have hx := out_two c n2 n3 (out_four c (by rw [← Int.mul_assoc]; exact ass_1x l1.a m1.a l2.x l2.y m2.x m2.y L2.x M2.x l1.b m1.b L1.a L1.b M1.a d1))
  have hy := out_two c n2 n3 (out_four c (by rw [← Int.mul_assoc]; exact ass_1y l1.a m1.a l2.x l2.y m2.x m2.y L2.y M2.x M2.y l1.b m1.b L1.a L1.b M1.a d1 hx))
  exact pair_of (same_of hX1 hY1 hx) (same_of hX2 hY2 hy)

/-- Sums in any order. -/
theorem add_assoc (c : Cur p b) {P R T : PtQ} (hP : OnQ p b P) (hR : OnQ p b R) (hT : OnQ p b T) : addQ p (addQ p P R) T = addQ p P (addQ p R T) := by
  have hPR := on_add c hP hR
  have hRT := on_add c hR hT
  have nP := on_neg c hP
  have nR := on_neg c hR
  have nT := on_neg c hT
  by_cases hA : addQ p P R = none
  · rw [hA, none_add]
    have e := none_of c hP hR hA
    have e2 : P = negQ p R := by rw [e, neg_neg c hP]
    rw [e2, cancel c hR hT]
  by_cases hB : addQ p R T = none
  · rw [hB, add_none]
    have e := none_of c hR hT hB
    rw [e, add_comm c hPR nR, add_comm c hP hR, cancel c hR hP]
  by_cases hC : addQ p (addQ p P R) T = none
  · rw [hC]
    have e := none_of c hPR hT hC
    rw [e, neg_add c hP hR, add_comm c nP nR]
    have := cancel c nR nP
    rw [neg_neg c hR] at this
    rw [this, add_neg c hP]
  by_cases hD : addQ p P (addQ p R T) = none
  · rw [hD]
    have e := none_of c hRT hP (by rw [add_comm c hRT hP]; exact hD)
    rw [e, neg_add c hR hT]
    have h3 := cancel c nR nT
    rw [neg_neg c hR] at h3
    rw [add_comm c (on_add c nR nT) hR, h3, add_comm c nT hT, add_neg c hT]
  cases P with
  | none => rfl
  | some P1 =>
  cases R with
  | none => rw [add_none, none_add]
  | some P2 =>
  cases T with
  | none => rw [add_none, add_none]
  | some P3 =>
  cases hS : addQ p (some P1) (some P2) with
  | none => exact absurd hS hA
  | some S =>
  cases hT' : addQ p (some P2) (some P3) with
  | none => exact absurd hT' hB
  | some T =>
  rw [hS] at hPR hC
  rw [hT'] at hRT hD
  cases hX : addQ p (some S) (some P3) with
  | none => exact absurd hX hC
  | some X =>
  cases hY : addQ p (some P1) (some T) with
  | none => exact absurd hY hD
  | some Y =>
  obtain ⟨hS1, hS2, l, l1, l2⟩ := of_sum c hP hR hS
  obtain ⟨hT1, hT2, m, m1, m2⟩ := of_sum c hR hT hT'
  obtain ⟨hX1, hX2, L, L1, L2⟩ := of_sum c hPR hT hX
  obtain ⟨hY1, hY2, M, M1, M2⟩ := of_sum c hP hRT hY
  congr 1
  by_cases d1 : (p : Int) ∣ (S.1 : Int) - P3.1
  · exact assoc_same c hP hR hT hS hT' hX hY d1
  by_cases d2 : (p : Int) ∣ (P1.1 : Int) - T.1
  · rw [add_comm c hR hT] at hT'
    rw [add_comm c hP hR] at hS
    rw [add_comm c hPR hT] at hX
    rw [add_comm c hP hRT] at hY
    exact (assoc_same c hT hR hP hT' hS hY hX (by obtain ⟨k, hk⟩ := d2; exact ⟨-k, by rw [Int.mul_neg, ← hk]; omega⟩)).symm
  · have hx := out_two c d1 d2 (ass_gx l1.a m1.a l2.x l2.y m2.x m2.y L2.x M2.x l1.b m1.b L1.a M1.a)
    have hy := out_two c d1 d2 (ass_gy l1.a m1.a l2.x l2.y m2.x m2.y L2.x L2.y M2.x M2.y l1.b m1.b L1.a M1.a hx)
    exact pair_of (same_of hX1 hY1 hx) (same_of hX2 hY2 hy)

end Go.Proofs.Ytkedomfjjahjnaa

/- Plain laws of wide points against plain ones, as divisibilities; printed by a program of this claim's own. No statement of a seat is proved here. -/
namespace Go.Proofs.Ytkedomfjjahjnaa
set_option maxRecDepth 100000

theorem dbl_x_e (xs z3 yz x3 s2 mm m b1 s a1 yy Y X l y x z : Int) : (x3-xs*(z3*z3)) = (-z3*z3) * (xs-(l*l-x-x)) + (-2*Y*l*z*z*z*z*z - 3*x*x*z*z*z*z*z*z*z*z) * (l*(y+y)-(x*x+x*x+x*x)) + (-z3*l*l + 2*z3*x - 2*yz*l*l + 4*yz*x) * (z3-(yz*2)) + (-4*yz*l*l + 8*yz*x - 4*Y*l*l*z + 8*Y*x*z) * (yz-(Y*z)) + (1) * (x3-(mm-s2)) + (-1) * (s2-(s*2)) + (1) * (mm-(m*m)) + (m + 3*b1) * (m-(b1*3)) + (9*b1 + 9*X*X) * (b1-(X*X)) + (-2) * (s-(a1*4)) + (-8) * (a1-(X*yy)) + (-8*X) * (yy-(Y*Y)) + (-8*Y*Y + 9*X*X*X + 9*X*X*x*z*z + 9*X*x*x*z*z*z*z + 9*x*x*x*z*z*z*z*z*z) * (X-x*(z*z)) + (-4*Y*l*l*z*z - 6*l*x*x*z*z*z*z*z) * (Y-y*(z*z*z)) := by grind
theorem dbl_x {p xs z3 yz x3 s2 mm m b1 s a1 yy Y X l y x z : Int} (h0 : p ∣ xs-(l*l-x-x)) (h1 : p ∣ l*(y+y)-(x*x+x*x+x*x)) (h2 : p ∣ z3-(yz*2)) (h3 : p ∣ yz-(Y*z)) (h4 : p ∣ x3-(mm-s2)) (h5 : p ∣ s2-(s*2)) (h6 : p ∣ mm-(m*m)) (h7 : p ∣ m-(b1*3)) (h8 : p ∣ b1-(X*X)) (h9 : p ∣ s-(a1*4)) (h10 : p ∣ a1-(X*yy)) (h11 : p ∣ yy-(Y*Y)) (h12 : p ∣ X-x*(z*z)) (h13 : p ∣ Y-y*(z*z*z)) : p ∣ (x3-xs*(z3*z3)) := by
  rw [dbl_x_e xs z3 yz x3 s2 mm m b1 s a1 yy Y X l y x z]
  exact (Int.dvd_add (Int.dvd_add (Int.dvd_add (Int.dvd_add (Int.dvd_add (Int.dvd_add (Int.dvd_add (Int.dvd_add (Int.dvd_add (Int.dvd_add (Int.dvd_add (Int.dvd_add (Int.dvd_add (Int.dvd_trans h0 (Int.dvd_mul_left ..)) (Int.dvd_trans h1 (Int.dvd_mul_left ..))) (Int.dvd_trans h2 (Int.dvd_mul_left ..))) (Int.dvd_trans h3 (Int.dvd_mul_left ..))) (Int.dvd_trans h4 (Int.dvd_mul_left ..))) (Int.dvd_trans h5 (Int.dvd_mul_left ..))) (Int.dvd_trans h6 (Int.dvd_mul_left ..))) (Int.dvd_trans h7 (Int.dvd_mul_left ..))) (Int.dvd_trans h8 (Int.dvd_mul_left ..))) (Int.dvd_trans h9 (Int.dvd_mul_left ..))) (Int.dvd_trans h10 (Int.dvd_mul_left ..))) (Int.dvd_trans h11 (Int.dvd_mul_left ..))) (Int.dvd_trans h12 (Int.dvd_mul_left ..))) (Int.dvd_trans h13 (Int.dvd_mul_left ..)))

theorem dbl_y_e (ys xs z3 yz y3 y8 y4 md d x3 s2 mm m b1 s a1 yy Y X l y x z : Int) : (y3-ys*(z3*z3*z3)) = (-z3*z3*z3) * (ys-(l*(x-xs)-y)) + (z3*z3*z3*l) * (xs-(l*l-x-x)) + (4*Y*Y*l*l*z*z*z*z*z*z - 12*Y*Y*x*z*z*z*z*z*z + 6*Y*l*x*x*z*z*z*z*z*z*z*z*z + 9*x*x*x*x*z*z*z*z*z*z*z*z*z*z*z*z) * (l*(y+y)-(x*x+x*x+x*x)) + (z3*z3*l*l*l - 3*z3*z3*l*x + z3*z3*y + 2*z3*yz*l*l*l - 6*z3*yz*l*x + 2*z3*yz*y + 4*yz*yz*l*l*l - 12*yz*yz*l*x + 4*yz*yz*y) * (z3-(yz*2)) + (8*yz*yz*l*l*l - 24*yz*yz*l*x + 8*yz*yz*y + 8*yz*Y*l*l*l*z - 24*yz*Y*l*x*z + 8*yz*Y*y*z + 8*Y*Y*l*l*l*z*z - 24*Y*Y*l*x*z*z + 8*Y*Y*y*z*z) * (yz-(Y*z)) + (1) * (y3-(md-y8)) + (-1) * (y8-(y4*8)) + (-8) * (y4-(yy*yy)) + (1) * (md-(m*d)) + (m) * (d-(s-x3)) + (-m) * (x3-(mm-s2)) + (m) * (s2-(s*2)) + (-m) * (mm-(m*m)) + (-m*m - 3*m*b1 - 9*b1*b1 + 3*s) * (m-(b1*3)) + (-27*b1*b1 - 27*b1*X*X + 9*s - 27*X*X*X*X) * (b1-(X*X)) + (9*X*X) * (s-(a1*4)) + (36*X*X) * (a1-(X*yy)) + (-8*yy - 8*Y*Y + 36*X*X*X) * (yy-(Y*Y)) + (36*Y*Y*X*X + 36*Y*Y*X*x*z*z + 36*Y*Y*x*x*z*z*z*z - 27*X*X*X*X*X - 27*X*X*X*X*x*z*z - 27*X*X*X*x*x*z*z*z*z - 27*X*X*x*x*x*z*z*z*z*z*z - 27*X*x*x*x*x*z*z*z*z*z*z*z*z - 27*x*x*x*x*x*z*z*z*z*z*z*z*z*z*z) * (X-x*(z*z)) + (-8*Y*Y*Y + 8*Y*Y*l*l*l*z*z*z - 24*Y*Y*l*x*z*z*z + 12*Y*l*l*x*x*z*z*z*z*z*z + 18*l*x*x*x*x*z*z*z*z*z*z*z*z*z) * (Y-y*(z*z*z)) := by grind
theorem dbl_y {p ys xs z3 yz y3 y8 y4 md d x3 s2 mm m b1 s a1 yy Y X l y x z : Int} (h0 : p ∣ ys-(l*(x-xs)-y)) (h1 : p ∣ xs-(l*l-x-x)) (h2 : p ∣ l*(y+y)-(x*x+x*x+x*x)) (h3 : p ∣ z3-(yz*2)) (h4 : p ∣ yz-(Y*z)) (h5 : p ∣ y3-(md-y8)) (h6 : p ∣ y8-(y4*8)) (h7 : p ∣ y4-(yy*yy)) (h8 : p ∣ md-(m*d)) (h9 : p ∣ d-(s-x3)) (h10 : p ∣ x3-(mm-s2)) (h11 : p ∣ s2-(s*2)) (h12 : p ∣ mm-(m*m)) (h13 : p ∣ m-(b1*3)) (h14 : p ∣ b1-(X*X)) (h15 : p ∣ s-(a1*4)) (h16 : p ∣ a1-(X*yy)) (h17 : p ∣ yy-(Y*Y)) (h18 : p ∣ X-x*(z*z)) (h19 : p ∣ Y-y*(z*z*z)) : p ∣ (y3-ys*(z3*z3*z3)) := by
  rw [dbl_y_e ys xs z3 yz y3 y8 y4 md d x3 s2 mm m b1 s a1 yy Y X l y x z]
  exact (Int.dvd_add (Int.dvd_add (Int.dvd_add (Int.dvd_add (Int.dvd_add (Int.dvd_add (Int.dvd_add (Int.dvd_add (Int.dvd_add (Int.dvd_add (Int.dvd_add (Int.dvd_add (Int.dvd_add (Int.dvd_add (Int.dvd_add (Int.dvd_add (Int.dvd_add (Int.dvd_add (Int.dvd_add (Int.dvd_trans h0 (Int.dvd_mul_left ..)) (Int.dvd_trans h1 (Int.dvd_mul_left ..))) (Int.dvd_trans h2 (Int.dvd_mul_left ..))) (Int.dvd_trans h3 (Int.dvd_mul_left ..))) (Int.dvd_trans h4 (Int.dvd_mul_left ..))) (Int.dvd_trans h5 (Int.dvd_mul_left ..))) (Int.dvd_trans h6 (Int.dvd_mul_left ..))) (Int.dvd_trans h7 (Int.dvd_mul_left ..))) (Int.dvd_trans h8 (Int.dvd_mul_left ..))) (Int.dvd_trans h9 (Int.dvd_mul_left ..))) (Int.dvd_trans h10 (Int.dvd_mul_left ..))) (Int.dvd_trans h11 (Int.dvd_mul_left ..))) (Int.dvd_trans h12 (Int.dvd_mul_left ..))) (Int.dvd_trans h13 (Int.dvd_mul_left ..))) (Int.dvd_trans h14 (Int.dvd_mul_left ..))) (Int.dvd_trans h15 (Int.dvd_mul_left ..))) (Int.dvd_trans h16 (Int.dvd_mul_left ..))) (Int.dvd_trans h17 (Int.dvd_mul_left ..))) (Int.dvd_trans h18 (Int.dvd_mul_left ..))) (Int.dvd_trans h19 (Int.dvd_mul_left ..)))

theorem dbl_z_e (z3 yz Y y z : Int) : (z3-2*(y*(z*(z*(z*z))))) = (1) * (z3-(yz*2)) + (2) * (yz-(Y*z)) + (2*z) * (Y-y*(z*z*z)) := by grind
theorem dbl_z {p z3 yz Y y z : Int} (h0 : p ∣ z3-(yz*2)) (h1 : p ∣ yz-(Y*z)) (h2 : p ∣ Y-y*(z*z*z)) : p ∣ (z3-2*(y*(z*(z*(z*z))))) := by
  rw [dbl_z_e z3 yz Y y z]
  exact (Int.dvd_add (Int.dvd_add (Int.dvd_trans h0 (Int.dvd_mul_left ..)) (Int.dvd_trans h1 (Int.dvd_mul_left ..))) (Int.dvd_trans h2 (Int.dvd_mul_left ..)))

theorem add_h_e (h v u qz pz X2 X1 x1 x2 z1 z2 : Int) : (h-(x2-x1)*(z1*z1*(z2*z2))) = (1) * (h-(v-u)) + (1) * (v-(X2*pz)) + (-1) * (u-(X1*qz)) + (-X1) * (qz-(z2*z2)) + (X2) * (pz-(z1*z1)) + (-z2*z2) * (X1-x1*(z1*z1)) + (z1*z1) * (X2-x2*(z2*z2)) := by grind
theorem add_h {p h v u qz pz X2 X1 x1 x2 z1 z2 : Int} (h0 : p ∣ h-(v-u)) (h1 : p ∣ v-(X2*pz)) (h2 : p ∣ u-(X1*qz)) (h3 : p ∣ qz-(z2*z2)) (h4 : p ∣ pz-(z1*z1)) (h5 : p ∣ X1-x1*(z1*z1)) (h6 : p ∣ X2-x2*(z2*z2)) : p ∣ (h-(x2-x1)*(z1*z1*(z2*z2))) := by
  rw [add_h_e h v u qz pz X2 X1 x1 x2 z1 z2]
  exact (Int.dvd_add (Int.dvd_add (Int.dvd_add (Int.dvd_add (Int.dvd_add (Int.dvd_add (Int.dvd_trans h0 (Int.dvd_mul_left ..)) (Int.dvd_trans h1 (Int.dvd_mul_left ..))) (Int.dvd_trans h2 (Int.dvd_mul_left ..))) (Int.dvd_trans h3 (Int.dvd_mul_left ..))) (Int.dvd_trans h4 (Int.dvd_mul_left ..))) (Int.dvd_trans h5 (Int.dvd_mul_left ..))) (Int.dvd_trans h6 (Int.dvd_mul_left ..)))

theorem add_r_e (r t p3 s q3 qz pz Y2 Y1 y1 y2 z1 z2 : Int) : (r-(y2-y1)*(z1*z1*z1*(z2*z2*z2))) = (1) * (r-(t-s)) + (1) * (t-(Y2*p3)) + (Y2) * (p3-(pz*z1)) + (-1) * (s-(Y1*q3)) + (-Y1) * (q3-(qz*z2)) + (-Y1*z2) * (qz-(z2*z2)) + (Y2*z1) * (pz-(z1*z1)) + (-z2*z2*z2) * (Y1-y1*(z1*z1*z1)) + (z1*z1*z1) * (Y2-y2*(z2*z2*z2)) := by grind
theorem add_r {p r t p3 s q3 qz pz Y2 Y1 y1 y2 z1 z2 : Int} (h0 : p ∣ r-(t-s)) (h1 : p ∣ t-(Y2*p3)) (h2 : p ∣ p3-(pz*z1)) (h3 : p ∣ s-(Y1*q3)) (h4 : p ∣ q3-(qz*z2)) (h5 : p ∣ qz-(z2*z2)) (h6 : p ∣ pz-(z1*z1)) (h7 : p ∣ Y1-y1*(z1*z1*z1)) (h8 : p ∣ Y2-y2*(z2*z2*z2)) : p ∣ (r-(y2-y1)*(z1*z1*z1*(z2*z2*z2))) := by
  rw [add_r_e r t p3 s q3 qz pz Y2 Y1 y1 y2 z1 z2]
  exact (Int.dvd_add (Int.dvd_add (Int.dvd_add (Int.dvd_add (Int.dvd_add (Int.dvd_add (Int.dvd_add (Int.dvd_add (Int.dvd_trans h0 (Int.dvd_mul_left ..)) (Int.dvd_trans h1 (Int.dvd_mul_left ..))) (Int.dvd_trans h2 (Int.dvd_mul_left ..))) (Int.dvd_trans h3 (Int.dvd_mul_left ..))) (Int.dvd_trans h4 (Int.dvd_mul_left ..))) (Int.dvd_trans h5 (Int.dvd_mul_left ..))) (Int.dvd_trans h6 (Int.dvd_mul_left ..))) (Int.dvd_trans h7 (Int.dvd_mul_left ..))) (Int.dvd_trans h8 (Int.dvd_mul_left ..)))

theorem add_x_e (xs z3 zz x3 c2 rh rr cc hhh hh r t p3 h v s q3 u qz pz Y2 X2 Y1 X1 y2 y1 l x1 x2 z1 z2 : Int) : (x3-xs*(z3*z3)) = (-z3*z3) * (xs-(l*l-x1-x2)) + (Y2*z1*z1*z1*z1*z1*z1*z2*z2*z2 - l*x1*z1*z1*z1*z1*z1*z1*z2*z2*z2*z2*z2*z2 + l*x2*z1*z1*z1*z1*z1*z1*z2*z2*z2*z2*z2*z2 - y1*z1*z1*z1*z1*z1*z1*z2*z2*z2*z2*z2*z2) * (l*(x1-x2)-(y1-y2)) + (-z3*l*l + z3*x1 + z3*x2 - zz*h*l*l + zz*h*x1 + zz*h*x2) * (z3-(h*zz)) + (-zz*h*h*l*l + zz*h*h*x1 + zz*h*h*x2 - h*h*l*l*z1*z2 + h*h*x1*z1*z2 + h*h*x2*z1*z2) * (zz-(z1*z2)) + (1) * (x3-(rh-c2)) + (-1) * (c2-(cc*2)) + (1) * (rh-(rr-hhh)) + (1) * (rr-(r*r)) + (-2) * (cc-(u*hh)) + (-1) * (hhh-(hh*h)) + (-h - 2*u) * (hh-(h*h)) + (r + t - s) * (r-(t-s)) + (t + p3*Y2 - 2*s) * (t-(Y2*p3)) + (p3*Y2*Y2 - 2*s*Y2 + pz*Y2*Y2*z1) * (p3-(pz*z1)) + (-h*h - h*v - h*u - h*l*l*z1*z1*z2*z2 + h*x1*z1*z1*z2*z2 + h*x2*z1*z1*z2*z2 - v*v - v*l*l*z1*z1*z2*z2 + v*x1*z1*z1*z2*z2 + v*x2*z1*z1*z2*z2 + u*u + u*l*l*z1*z1*z2*z2 - u*x1*z1*z1*z2*z2 - u*x2*z1*z1*z2*z2) * (h-(v-u)) + (-v*v + v*u - v*pz*X2 - v*l*l*z1*z1*z2*z2 + v*x1*z1*z1*z2*z2 + v*x2*z1*z1*z2*z2 + u*u + u*pz*X2 + 2*u*l*l*z1*z1*z2*z2 - 2*u*x1*z1*z1*z2*z2 - 2*u*x2*z1*z1*z2*z2 - pz*pz*X2*X2 - pz*X2*l*l*z1*z1*z2*z2 + pz*X2*x1*z1*z1*z2*z2 + pz*X2*x2*z1*z1*z2*z2) * (v-(X2*pz)) + (s + q3*Y1 - 2*pz*Y2*z1) * (s-(Y1*q3)) + (q3*Y1*Y1 + qz*Y1*Y1*z2 - 2*pz*Y2*Y1*z1) * (q3-(qz*z2)) + (-u*u - u*qz*X1 + u*pz*X2 - u*l*l*z1*z1*z2*z2 + u*x1*z1*z1*z2*z2 + u*x2*z1*z1*z2*z2 - qz*qz*X1*X1 + qz*pz*X2*X1 - qz*X1*l*l*z1*z1*z2*z2 + qz*X1*x1*z1*z1*z2*z2 + qz*X1*x2*z1*z1*z2*z2 + pz*pz*X2*X2 + 2*pz*X2*l*l*z1*z1*z2*z2 - 2*pz*X2*x1*z1*z1*z2*z2 - 2*pz*X2*x2*z1*z1*z2*z2) * (u-(X1*qz)) + (-qz*qz*X1*X1*X1 + qz*pz*X2*X1*X1 + qz*Y1*Y1*z2*z2 - qz*X1*X1*X1*z2*z2 - qz*X1*X1*l*l*z1*z1*z2*z2 + qz*X1*X1*x1*z1*z1*z2*z2 + qz*X1*X1*x2*z1*z1*z2*z2 + pz*pz*X2*X2*X1 - 2*pz*Y2*Y1*z1*z2 + pz*X2*X1*X1*z2*z2 + 2*pz*X2*X1*l*l*z1*z1*z2*z2 - 2*pz*X2*X1*x1*z1*z1*z2*z2 - 2*pz*X2*X1*x2*z1*z1*z2*z2 + Y1*Y1*z2*z2*z2*z2 - X1*X1*X1*z2*z2*z2*z2 - X1*X1*l*l*z1*z1*z2*z2*z2*z2 + X1*X1*x1*z1*z1*z2*z2*z2*z2 + X1*X1*x2*z1*z1*z2*z2*z2*z2) * (qz-(z2*z2)) + (-pz*pz*X2*X2*X2 + pz*Y2*Y2*z1*z1 - pz*X2*X2*X2*z1*z1 + pz*X2*X2*X1*z2*z2 - pz*X2*X2*l*l*z1*z1*z2*z2 + pz*X2*X2*x1*z1*z1*z2*z2 + pz*X2*X2*x2*z1*z1*z2*z2 + Y2*Y2*z1*z1*z1*z1 - 2*Y2*Y1*z1*z2*z2*z2 - X2*X2*X2*z1*z1*z1*z1 + X2*X2*X1*z1*z1*z2*z2 - X2*X2*l*l*z1*z1*z1*z1*z2*z2 + X2*X2*x1*z1*z1*z1*z1*z2*z2 + X2*X2*x2*z1*z1*z1*z1*z2*z2 + X2*X1*X1*z2*z2*z2*z2 + 2*X2*X1*l*l*z1*z1*z2*z2*z2*z2 - 2*X2*X1*x1*z1*z1*z2*z2*z2*z2 - 2*X2*X1*x2*z1*z1*z2*z2*z2*z2) * (pz-(z1*z1)) + (X2*X2*z1*z1*z1*z1*z2*z2 + X2*X1*z1*z1*z2*z2*z2*z2 + 2*X2*l*l*z1*z1*z1*z1*z2*z2*z2*z2 - X2*x1*z1*z1*z1*z1*z2*z2*z2*z2 - 2*X2*x2*z1*z1*z1*z1*z2*z2*z2*z2 - X1*X1*z2*z2*z2*z2*z2*z2 - X1*l*l*z1*z1*z2*z2*z2*z2*z2*z2 + X1*x2*z1*z1*z2*z2*z2*z2*z2*z2 - l*l*x1*z1*z1*z1*z1*z2*z2*z2*z2*z2*z2 + x1*x2*z1*z1*z1*z1*z2*z2*z2*z2*z2*z2) * (X1-x1*(z1*z1)) + (-2*Y2*z1*z1*z1*z2*z2*z2 + Y1*z2*z2*z2*z2*z2*z2 + y1*z1*z1*z1*z2*z2*z2*z2*z2*z2) * (Y1-y1*(z1*z1*z1)) + (-X2*X2*z1*z1*z1*z1*z1*z1 - X2*l*l*z1*z1*z1*z1*z1*z1*z2*z2 + 2*X2*x1*z1*z1*z1*z1*z1*z1*z2*z2 + 2*l*l*x1*z1*z1*z1*z1*z1*z1*z2*z2*z2*z2 - l*l*x2*z1*z1*z1*z1*z1*z1*z2*z2*z2*z2 - x1*x1*z1*z1*z1*z1*z1*z1*z2*z2*z2*z2) * (X2-x2*(z2*z2)) + (Y2*z1*z1*z1*z1*z1*z1 - l*x1*z1*z1*z1*z1*z1*z1*z2*z2*z2 + l*x2*z1*z1*z1*z1*z1*z1*z2*z2*z2 - y1*z1*z1*z1*z1*z1*z1*z2*z2*z2) * (Y2-y2*(z2*z2*z2)) := by grind
theorem add_x {p xs z3 zz x3 c2 rh rr cc hhh hh r t p3 h v s q3 u qz pz Y2 X2 Y1 X1 y2 y1 l x1 x2 z1 z2 : Int} (h0 : p ∣ xs-(l*l-x1-x2)) (h1 : p ∣ l*(x1-x2)-(y1-y2)) (h2 : p ∣ z3-(h*zz)) (h3 : p ∣ zz-(z1*z2)) (h4 : p ∣ x3-(rh-c2)) (h5 : p ∣ c2-(cc*2)) (h6 : p ∣ rh-(rr-hhh)) (h7 : p ∣ rr-(r*r)) (h8 : p ∣ cc-(u*hh)) (h9 : p ∣ hhh-(hh*h)) (h10 : p ∣ hh-(h*h)) (h11 : p ∣ r-(t-s)) (h12 : p ∣ t-(Y2*p3)) (h13 : p ∣ p3-(pz*z1)) (h14 : p ∣ h-(v-u)) (h15 : p ∣ v-(X2*pz)) (h16 : p ∣ s-(Y1*q3)) (h17 : p ∣ q3-(qz*z2)) (h18 : p ∣ u-(X1*qz)) (h19 : p ∣ qz-(z2*z2)) (h20 : p ∣ pz-(z1*z1)) (h21 : p ∣ X1-x1*(z1*z1)) (h22 : p ∣ Y1-y1*(z1*z1*z1)) (h23 : p ∣ X2-x2*(z2*z2)) (h24 : p ∣ Y2-y2*(z2*z2*z2)) : p ∣ (x3-xs*(z3*z3)) := by
  rw [add_x_e xs z3 zz x3 c2 rh rr cc hhh hh r t p3 h v s q3 u qz pz Y2 X2 Y1 X1 y2 y1 l x1 x2 z1 z2]
  exact (Int.dvd_add (Int.dvd_add (Int.dvd_add (Int.dvd_add (Int.dvd_add (Int.dvd_add (Int.dvd_add (Int.dvd_add (Int.dvd_add (Int.dvd_add (Int.dvd_add (Int.dvd_add (Int.dvd_add (Int.dvd_add (Int.dvd_add (Int.dvd_add (Int.dvd_add (Int.dvd_add (Int.dvd_add (Int.dvd_add (Int.dvd_add (Int.dvd_add (Int.dvd_add (Int.dvd_add (Int.dvd_trans h0 (Int.dvd_mul_left ..)) (Int.dvd_trans h1 (Int.dvd_mul_left ..))) (Int.dvd_trans h2 (Int.dvd_mul_left ..))) (Int.dvd_trans h3 (Int.dvd_mul_left ..))) (Int.dvd_trans h4 (Int.dvd_mul_left ..))) (Int.dvd_trans h5 (Int.dvd_mul_left ..))) (Int.dvd_trans h6 (Int.dvd_mul_left ..))) (Int.dvd_trans h7 (Int.dvd_mul_left ..))) (Int.dvd_trans h8 (Int.dvd_mul_left ..))) (Int.dvd_trans h9 (Int.dvd_mul_left ..))) (Int.dvd_trans h10 (Int.dvd_mul_left ..))) (Int.dvd_trans h11 (Int.dvd_mul_left ..))) (Int.dvd_trans h12 (Int.dvd_mul_left ..))) (Int.dvd_trans h13 (Int.dvd_mul_left ..))) (Int.dvd_trans h14 (Int.dvd_mul_left ..))) (Int.dvd_trans h15 (Int.dvd_mul_left ..))) (Int.dvd_trans h16 (Int.dvd_mul_left ..))) (Int.dvd_trans h17 (Int.dvd_mul_left ..))) (Int.dvd_trans h18 (Int.dvd_mul_left ..))) (Int.dvd_trans h19 (Int.dvd_mul_left ..))) (Int.dvd_trans h20 (Int.dvd_mul_left ..))) (Int.dvd_trans h21 (Int.dvd_mul_left ..))) (Int.dvd_trans h22 (Int.dvd_mul_left ..))) (Int.dvd_trans h23 (Int.dvd_mul_left ..))) (Int.dvd_trans h24 (Int.dvd_mul_left ..)))

theorem add_y_e (ys xs z3 zz y3 sh rd d x3 c2 rh rr cc hhh hh r t p3 h v s q3 u qz pz Y2 X2 Y1 X1 y2 y1 l x1 x2 z1 z2 : Int) : (y3-ys*(z3*z3*z3)) = (-z3*z3*z3) * (ys-(l*(x1-xs)-y1)) + (z3*z3*z3*l) * (xs-(l*l-x1-x2)) + (-Y2*Y2*z1*z1*z1*z1*z1*z1*z1*z1*z1*z2*z2*z2 + Y2*l*x1*z1*z1*z1*z1*z1*z1*z1*z1*z1*z2*z2*z2*z2*z2*z2 - Y2*l*x2*z1*z1*z1*z1*z1*z1*z1*z1*z1*z2*z2*z2*z2*z2*z2 + 2*Y2*y1*z1*z1*z1*z1*z1*z1*z1*z1*z1*z2*z2*z2*z2*z2*z2 - l*l*x1*x1*z1*z1*z1*z1*z1*z1*z1*z1*z1*z2*z2*z2*z2*z2*z2*z2*z2*z2 + 2*l*l*x1*x2*z1*z1*z1*z1*z1*z1*z1*z1*z1*z2*z2*z2*z2*z2*z2*z2*z2*z2 - l*l*x2*x2*z1*z1*z1*z1*z1*z1*z1*z1*z1*z2*z2*z2*z2*z2*z2*z2*z2*z2 - y1*l*x1*z1*z1*z1*z1*z1*z1*z1*z1*z1*z2*z2*z2*z2*z2*z2*z2*z2*z2 + 2*x1*x1*x1*z1*z1*z1*z1*z1*z1*z1*z1*z1*z2*z2*z2*z2*z2*z2*z2*z2*z2 + y1*l*x2*z1*z1*z1*z1*z1*z1*z1*z1*z1*z2*z2*z2*z2*z2*z2*z2*z2*z2 - 3*x1*x1*x2*z1*z1*z1*z1*z1*z1*z1*z1*z1*z2*z2*z2*z2*z2*z2*z2*z2*z2 + x2*x2*x2*z1*z1*z1*z1*z1*z1*z1*z1*z1*z2*z2*z2*z2*z2*z2*z2*z2*z2 - y1*y1*z1*z1*z1*z1*z1*z1*z1*z1*z1*z2*z2*z2*z2*z2*z2*z2*z2*z2) * (l*(x1-x2)-(y1-y2)) + (z3*z3*l*l*l - 2*z3*z3*l*x1 - z3*z3*l*x2 + z3*z3*y1 + z3*zz*h*l*l*l - 2*z3*zz*h*l*x1 - z3*zz*h*l*x2 + z3*zz*h*y1 + zz*zz*h*h*l*l*l - 2*zz*zz*h*h*l*x1 - zz*zz*h*h*l*x2 + zz*zz*h*h*y1) * (z3-(h*zz)) + (zz*zz*h*h*h*l*l*l - 2*zz*zz*h*h*h*l*x1 - zz*zz*h*h*h*l*x2 + zz*zz*h*h*h*y1 + zz*h*h*h*l*l*l*z1*z2 - 2*zz*h*h*h*l*x1*z1*z2 - zz*h*h*h*l*x2*z1*z2 + zz*h*h*h*y1*z1*z2 + h*h*h*l*l*l*z1*z1*z2*z2 - 2*h*h*h*l*x1*z1*z1*z2*z2 - h*h*h*l*x2*z1*z1*z2*z2 + h*h*h*y1*z1*z1*z2*z2) * (zz-(z1*z2)) + (1) * (y3-(rd-sh)) + (-1) * (sh-(s*hhh)) + (1) * (rd-(r*d)) + (r) * (d-(cc-x3)) + (-r) * (x3-(rh-c2)) + (r) * (c2-(cc*2)) + (-r) * (rh-(rr-hhh)) + (-r) * (rr-(r*r)) + (3*r) * (cc-(u*hh)) + (r - s) * (hhh-(hh*h)) + (r*h + 3*r*u - h*s) * (hh-(h*h)) + (-r*r - r*t + r*s - t*t + 2*t*s + h*h*h + 3*h*h*u - s*s) * (r-(t-s)) + (-t*t - t*p3*Y2 + 3*t*s - p3*p3*Y2*Y2 + 3*p3*s*Y2 + h*h*h + 3*h*h*u - 3*s*s) * (t-(Y2*p3)) + (-p3*p3*Y2*Y2*Y2 + 3*p3*s*Y2*Y2 - p3*pz*Y2*Y2*Y2*z1 + h*h*h*Y2 + 3*h*h*u*Y2 - 3*s*s*Y2 + 3*s*pz*Y2*Y2*z1 - pz*pz*Y2*Y2*Y2*z1*z1) * (p3-(pz*z1)) + (-2*h*h*s + h*h*pz*Y2*z1 + h*h*l*l*l*z1*z1*z1*z2*z2*z2 - 2*h*h*l*x1*z1*z1*z1*z2*z2*z2 - h*h*l*x2*z1*z1*z1*z2*z2*z2 + h*h*y1*z1*z1*z1*z2*z2*z2 - 2*h*v*s + h*v*pz*Y2*z1 + h*v*l*l*l*z1*z1*z1*z2*z2*z2 - 2*h*v*l*x1*z1*z1*z1*z2*z2*z2 - h*v*l*x2*z1*z1*z1*z2*z2*z2 + h*v*y1*z1*z1*z1*z2*z2*z2 - h*s*u + 2*h*u*pz*Y2*z1 - h*u*l*l*l*z1*z1*z1*z2*z2*z2 + 2*h*u*l*x1*z1*z1*z1*z2*z2*z2 + h*u*l*x2*z1*z1*z1*z2*z2*z2 - h*u*y1*z1*z1*z1*z2*z2*z2 - 2*v*v*s + v*v*pz*Y2*z1 + v*v*l*l*l*z1*z1*z1*z2*z2*z2 - 2*v*v*l*x1*z1*z1*z1*z2*z2*z2 - v*v*l*x2*z1*z1*z1*z2*z2*z2 + v*v*y1*z1*z1*z1*z2*z2*z2 + v*s*u + v*u*pz*Y2*z1 - 2*v*u*l*l*l*z1*z1*z1*z2*z2*z2 + 4*v*u*l*x1*z1*z1*z1*z2*z2*z2 + 2*v*u*l*x2*z1*z1*z1*z2*z2*z2 - 2*v*u*y1*z1*z1*z1*z2*z2*z2 + s*u*u - 2*u*u*pz*Y2*z1 + u*u*l*l*l*z1*z1*z1*z2*z2*z2 - 2*u*u*l*x1*z1*z1*z1*z2*z2*z2 - u*u*l*x2*z1*z1*z1*z2*z2*z2 + u*u*y1*z1*z1*z1*z2*z2*z2) * (h-(v-u)) + (-2*v*v*s + v*v*pz*Y2*z1 + v*v*l*l*l*z1*z1*z1*z2*z2*z2 - 2*v*v*l*x1*z1*z1*z1*z2*z2*z2 - v*v*l*x2*z1*z1*z1*z2*z2*z2 + v*v*y1*z1*z1*z1*z2*z2*z2 + 3*v*s*u - 2*v*s*pz*X2 - 3*v*u*l*l*l*z1*z1*z1*z2*z2*z2 + 6*v*u*l*x1*z1*z1*z1*z2*z2*z2 + 3*v*u*l*x2*z1*z1*z1*z2*z2*z2 - 3*v*u*y1*z1*z1*z1*z2*z2*z2 + v*pz*pz*Y2*X2*z1 + v*pz*X2*l*l*l*z1*z1*z1*z2*z2*z2 - 2*v*pz*X2*l*x1*z1*z1*z1*z2*z2*z2 - v*pz*X2*l*x2*z1*z1*z1*z2*z2*z2 + v*pz*X2*y1*z1*z1*z1*z2*z2*z2 + 3*s*u*pz*X2 - 2*s*pz*pz*X2*X2 - 3*u*u*pz*Y2*z1 + 3*u*u*l*l*l*z1*z1*z1*z2*z2*z2 - 6*u*u*l*x1*z1*z1*z1*z2*z2*z2 - 3*u*u*l*x2*z1*z1*z1*z2*z2*z2 + 3*u*u*y1*z1*z1*z1*z2*z2*z2 - 3*u*pz*X2*l*l*l*z1*z1*z1*z2*z2*z2 + 6*u*pz*X2*l*x1*z1*z1*z1*z2*z2*z2 + 3*u*pz*X2*l*x2*z1*z1*z1*z2*z2*z2 - 3*u*pz*X2*y1*z1*z1*z1*z2*z2*z2 + pz*pz*pz*Y2*X2*X2*z1 + pz*pz*X2*X2*l*l*l*z1*z1*z1*z2*z2*z2 - 2*pz*pz*X2*X2*l*x1*z1*z1*z1*z2*z2*z2 - pz*pz*X2*X2*l*x2*z1*z1*z1*z2*z2*z2 + pz*pz*X2*X2*y1*z1*z1*z1*z2*z2*z2) * (v-(X2*pz)) + (s*s + s*q3*Y1 - 3*s*pz*Y2*z1 + q3*q3*Y1*Y1 - 3*q3*pz*Y2*Y1*z1 - u*u*u + 3*u*pz*pz*X2*X2 - 2*pz*pz*pz*X2*X2*X2 + 3*pz*pz*Y2*Y2*z1*z1) * (s-(Y1*q3)) + (q3*q3*Y1*Y1*Y1 + q3*qz*Y1*Y1*Y1*z2 - 3*q3*pz*Y2*Y1*Y1*z1 - u*u*u*Y1 + 3*u*pz*pz*X2*X2*Y1 + qz*qz*Y1*Y1*Y1*z2*z2 - 3*qz*pz*Y2*Y1*Y1*z1*z2 - 2*pz*pz*pz*X2*X2*X2*Y1 + 3*pz*pz*Y2*Y2*Y1*z1*z1) * (q3-(qz*z2)) + (-u*u*qz*Y1*z2 + 2*u*u*pz*Y2*z1 - u*u*l*l*l*z1*z1*z1*z2*z2*z2 + 2*u*u*l*x1*z1*z1*z1*z2*z2*z2 + u*u*l*x2*z1*z1*z1*z2*z2*z2 - u*u*y1*z1*z1*z1*z2*z2*z2 - u*qz*qz*Y1*X1*z2 + 2*u*qz*pz*Y2*X1*z1 - u*qz*X1*l*l*l*z1*z1*z1*z2*z2*z2 + 2*u*qz*X1*l*x1*z1*z1*z1*z2*z2*z2 + u*qz*X1*l*x2*z1*z1*z1*z2*z2*z2 - u*qz*X1*y1*z1*z1*z1*z2*z2*z2 - 3*u*pz*pz*Y2*X2*z1 + 3*u*pz*X2*l*l*l*z1*z1*z1*z2*z2*z2 - 6*u*pz*X2*l*x1*z1*z1*z1*z2*z2*z2 - 3*u*pz*X2*l*x2*z1*z1*z1*z2*z2*z2 + 3*u*pz*X2*y1*z1*z1*z1*z2*z2*z2 - qz*qz*qz*Y1*X1*X1*z2 + 2*qz*qz*pz*Y2*X1*X1*z1 - qz*qz*X1*X1*l*l*l*z1*z1*z1*z2*z2*z2 + 2*qz*qz*X1*X1*l*x1*z1*z1*z1*z2*z2*z2 + qz*qz*X1*X1*l*x2*z1*z1*z1*z2*z2*z2 - qz*qz*X1*X1*y1*z1*z1*z1*z2*z2*z2 - 3*qz*pz*pz*Y2*X2*X1*z1 + 3*qz*pz*pz*X2*X2*Y1*z2 + 3*qz*pz*X2*X1*l*l*l*z1*z1*z1*z2*z2*z2 - 6*qz*pz*X2*X1*l*x1*z1*z1*z1*z2*z2*z2 - 3*qz*pz*X2*X1*l*x2*z1*z1*z1*z2*z2*z2 + 3*qz*pz*X2*X1*y1*z1*z1*z1*z2*z2*z2 - 3*pz*pz*X2*X2*l*l*l*z1*z1*z1*z2*z2*z2 + 6*pz*pz*X2*X2*l*x1*z1*z1*z1*z2*z2*z2 + 3*pz*pz*X2*X2*l*x2*z1*z1*z1*z2*z2*z2 - 3*pz*pz*X2*X2*y1*z1*z1*z1*z2*z2*z2) * (u-(X1*qz)) + (-qz*qz*qz*Y1*X1*X1*X1*z2 + 2*qz*qz*pz*Y2*X1*X1*X1*z1 + qz*qz*Y1*Y1*Y1*z2*z2*z2 - qz*qz*Y1*X1*X1*X1*z2*z2*z2 - qz*qz*X1*X1*X1*l*l*l*z1*z1*z1*z2*z2*z2 + 2*qz*qz*X1*X1*X1*l*x1*z1*z1*z1*z2*z2*z2 + qz*qz*X1*X1*X1*l*x2*z1*z1*z1*z2*z2*z2 - qz*qz*X1*X1*X1*y1*z1*z1*z1*z2*z2*z2 - 3*qz*pz*pz*Y2*X2*X1*X1*z1 + 3*qz*pz*pz*X2*X2*Y1*X1*z2 - 3*qz*pz*Y2*Y1*Y1*z1*z2*z2 + 2*qz*pz*Y2*X1*X1*X1*z1*z2*z2 + 3*qz*pz*X2*X1*X1*l*l*l*z1*z1*z1*z2*z2*z2 - 6*qz*pz*X2*X1*X1*l*x1*z1*z1*z1*z2*z2*z2 - 3*qz*pz*X2*X1*X1*l*x2*z1*z1*z1*z2*z2*z2 + 3*qz*pz*X2*X1*X1*y1*z1*z1*z1*z2*z2*z2 + qz*Y1*Y1*Y1*z2*z2*z2*z2*z2 - qz*Y1*X1*X1*X1*z2*z2*z2*z2*z2 - qz*X1*X1*X1*l*l*l*z1*z1*z1*z2*z2*z2*z2*z2 + 2*qz*X1*X1*X1*l*x1*z1*z1*z1*z2*z2*z2*z2*z2 + qz*X1*X1*X1*l*x2*z1*z1*z1*z2*z2*z2*z2*z2 - qz*X1*X1*X1*y1*z1*z1*z1*z2*z2*z2*z2*z2 - 2*pz*pz*pz*X2*X2*X2*Y1*z2 + 3*pz*pz*Y2*Y2*Y1*z1*z1*z2 - 3*pz*pz*Y2*X2*X1*X1*z1*z2*z2 + 3*pz*pz*X2*X2*Y1*X1*z2*z2*z2 - 3*pz*pz*X2*X2*X1*l*l*l*z1*z1*z1*z2*z2*z2 + 6*pz*pz*X2*X2*X1*l*x1*z1*z1*z1*z2*z2*z2 + 3*pz*pz*X2*X2*X1*l*x2*z1*z1*z1*z2*z2*z2 - 3*pz*pz*X2*X2*X1*y1*z1*z1*z1*z2*z2*z2 - 3*pz*Y2*Y1*Y1*z1*z2*z2*z2*z2 + 2*pz*Y2*X1*X1*X1*z1*z2*z2*z2*z2 + 3*pz*X2*X1*X1*l*l*l*z1*z1*z1*z2*z2*z2*z2*z2 - 6*pz*X2*X1*X1*l*x1*z1*z1*z1*z2*z2*z2*z2*z2 - 3*pz*X2*X1*X1*l*x2*z1*z1*z1*z2*z2*z2*z2*z2 + 3*pz*X2*X1*X1*y1*z1*z1*z1*z2*z2*z2*z2*z2 + Y1*Y1*Y1*z2*z2*z2*z2*z2*z2*z2 - Y1*X1*X1*X1*z2*z2*z2*z2*z2*z2*z2 - X1*X1*X1*l*l*l*z1*z1*z1*z2*z2*z2*z2*z2*z2*z2 + 2*X1*X1*X1*l*x1*z1*z1*z1*z2*z2*z2*z2*z2*z2*z2 + X1*X1*X1*l*x2*z1*z1*z1*z2*z2*z2*z2*z2*z2*z2 - X1*X1*X1*y1*z1*z1*z1*z2*z2*z2*z2*z2*z2*z2) * (qz-(z2*z2)) + (pz*pz*pz*Y2*X2*X2*X2*z1 - pz*pz*Y2*Y2*Y2*z1*z1*z1 + pz*pz*Y2*X2*X2*X2*z1*z1*z1 - 2*pz*pz*X2*X2*X2*Y1*z2*z2*z2 + pz*pz*X2*X2*X2*l*l*l*z1*z1*z1*z2*z2*z2 - 2*pz*pz*X2*X2*X2*l*x1*z1*z1*z1*z2*z2*z2 - pz*pz*X2*X2*X2*l*x2*z1*z1*z1*z2*z2*z2 + pz*pz*X2*X2*X2*y1*z1*z1*z1*z2*z2*z2 - pz*Y2*Y2*Y2*z1*z1*z1*z1*z1 + 3*pz*Y2*Y2*Y1*z1*z1*z2*z2*z2 + pz*Y2*X2*X2*X2*z1*z1*z1*z1*z1 - 3*pz*Y2*X2*X1*X1*z1*z2*z2*z2*z2 - 2*pz*X2*X2*X2*Y1*z1*z1*z2*z2*z2 + pz*X2*X2*X2*l*l*l*z1*z1*z1*z1*z1*z2*z2*z2 - 2*pz*X2*X2*X2*l*x1*z1*z1*z1*z1*z1*z2*z2*z2 - pz*X2*X2*X2*l*x2*z1*z1*z1*z1*z1*z2*z2*z2 + pz*X2*X2*X2*y1*z1*z1*z1*z1*z1*z2*z2*z2 + 3*pz*X2*X2*Y1*X1*z2*z2*z2*z2*z2 - 3*pz*X2*X2*X1*l*l*l*z1*z1*z1*z2*z2*z2*z2*z2 + 6*pz*X2*X2*X1*l*x1*z1*z1*z1*z2*z2*z2*z2*z2 + 3*pz*X2*X2*X1*l*x2*z1*z1*z1*z2*z2*z2*z2*z2 - 3*pz*X2*X2*X1*y1*z1*z1*z1*z2*z2*z2*z2*z2 - Y2*Y2*Y2*z1*z1*z1*z1*z1*z1*z1 + 3*Y2*Y2*Y1*z1*z1*z1*z1*z2*z2*z2 + Y2*X2*X2*X2*z1*z1*z1*z1*z1*z1*z1 - 3*Y2*X2*X1*X1*z1*z1*z1*z2*z2*z2*z2 - 3*Y2*Y1*Y1*z1*z2*z2*z2*z2*z2*z2 + 2*Y2*X1*X1*X1*z1*z2*z2*z2*z2*z2*z2 - 2*X2*X2*X2*Y1*z1*z1*z1*z1*z2*z2*z2 + X2*X2*X2*l*l*l*z1*z1*z1*z1*z1*z1*z1*z2*z2*z2 - 2*X2*X2*X2*l*x1*z1*z1*z1*z1*z1*z1*z1*z2*z2*z2 - X2*X2*X2*l*x2*z1*z1*z1*z1*z1*z1*z1*z2*z2*z2 + X2*X2*X2*y1*z1*z1*z1*z1*z1*z1*z1*z2*z2*z2 + 3*X2*X2*Y1*X1*z1*z1*z2*z2*z2*z2*z2 - 3*X2*X2*X1*l*l*l*z1*z1*z1*z1*z1*z2*z2*z2*z2*z2 + 6*X2*X2*X1*l*x1*z1*z1*z1*z1*z1*z2*z2*z2*z2*z2 + 3*X2*X2*X1*l*x2*z1*z1*z1*z1*z1*z2*z2*z2*z2*z2 - 3*X2*X2*X1*y1*z1*z1*z1*z1*z1*z2*z2*z2*z2*z2 + 3*X2*X1*X1*l*l*l*z1*z1*z1*z2*z2*z2*z2*z2*z2*z2 - 6*X2*X1*X1*l*x1*z1*z1*z1*z2*z2*z2*z2*z2*z2*z2 - 3*X2*X1*X1*l*x2*z1*z1*z1*z2*z2*z2*z2*z2*z2*z2 + 3*X2*X1*X1*y1*z1*z1*z1*z2*z2*z2*z2*z2*z2*z2) * (pz-(z1*z1)) + (-3*Y2*X2*X1*z1*z1*z1*z1*z1*z2*z2*z2*z2 - 3*Y2*X2*x1*z1*z1*z1*z1*z1*z1*z1*z2*z2*z2*z2 + 2*Y2*X1*X1*z1*z1*z1*z2*z2*z2*z2*z2*z2 + 2*Y2*X1*x1*z1*z1*z1*z1*z1*z2*z2*z2*z2*z2*z2 + 2*Y2*x1*x1*z1*z1*z1*z1*z1*z1*z1*z2*z2*z2*z2*z2*z2 + 3*X2*X2*Y1*z1*z1*z1*z1*z2*z2*z2*z2*z2 - 3*X2*X2*l*l*l*z1*z1*z1*z1*z1*z1*z1*z2*z2*z2*z2*z2 + 6*X2*X2*l*x1*z1*z1*z1*z1*z1*z1*z1*z2*z2*z2*z2*z2 + 3*X2*X2*l*x2*z1*z1*z1*z1*z1*z1*z1*z2*z2*z2*z2*z2 - 3*X2*X2*y1*z1*z1*z1*z1*z1*z1*z1*z2*z2*z2*z2*z2 + 3*X2*X1*l*l*l*z1*z1*z1*z1*z1*z2*z2*z2*z2*z2*z2*z2 - 6*X2*X1*l*x1*z1*z1*z1*z1*z1*z2*z2*z2*z2*z2*z2*z2 - 3*X2*X1*l*x2*z1*z1*z1*z1*z1*z2*z2*z2*z2*z2*z2*z2 + 3*X2*X1*y1*z1*z1*z1*z1*z1*z2*z2*z2*z2*z2*z2*z2 + 3*X2*l*l*l*x1*z1*z1*z1*z1*z1*z1*z1*z2*z2*z2*z2*z2*z2*z2 - 6*X2*l*x1*x1*z1*z1*z1*z1*z1*z1*z1*z2*z2*z2*z2*z2*z2*z2 - 3*X2*l*x1*x2*z1*z1*z1*z1*z1*z1*z1*z2*z2*z2*z2*z2*z2*z2 + 3*X2*y1*x1*z1*z1*z1*z1*z1*z1*z1*z2*z2*z2*z2*z2*z2*z2 - Y1*X1*X1*z2*z2*z2*z2*z2*z2*z2*z2*z2 - Y1*X1*x1*z1*z1*z2*z2*z2*z2*z2*z2*z2*z2*z2 - Y1*x1*x1*z1*z1*z1*z1*z2*z2*z2*z2*z2*z2*z2*z2*z2 - X1*X1*l*l*l*z1*z1*z1*z2*z2*z2*z2*z2*z2*z2*z2*z2 + 2*X1*X1*l*x1*z1*z1*z1*z2*z2*z2*z2*z2*z2*z2*z2*z2 + X1*X1*l*x2*z1*z1*z1*z2*z2*z2*z2*z2*z2*z2*z2*z2 - X1*X1*y1*z1*z1*z1*z2*z2*z2*z2*z2*z2*z2*z2*z2 - X1*l*l*l*x1*z1*z1*z1*z1*z1*z2*z2*z2*z2*z2*z2*z2*z2*z2 + 2*X1*l*x1*x1*z1*z1*z1*z1*z1*z2*z2*z2*z2*z2*z2*z2*z2*z2 + X1*l*x1*x2*z1*z1*z1*z1*z1*z2*z2*z2*z2*z2*z2*z2*z2*z2 - X1*y1*x1*z1*z1*z1*z1*z1*z2*z2*z2*z2*z2*z2*z2*z2*z2 - l*l*l*x1*x1*z1*z1*z1*z1*z1*z1*z1*z2*z2*z2*z2*z2*z2*z2*z2*z2 + 2*l*x1*x1*x1*z1*z1*z1*z1*z1*z1*z1*z2*z2*z2*z2*z2*z2*z2*z2*z2 + l*x1*x1*x2*z1*z1*z1*z1*z1*z1*z1*z2*z2*z2*z2*z2*z2*z2*z2*z2 - y1*x1*x1*z1*z1*z1*z1*z1*z1*z1*z2*z2*z2*z2*z2*z2*z2*z2*z2) * (X1-x1*(z1*z1)) + (3*Y2*Y2*z1*z1*z1*z1*z1*z1*z2*z2*z2 - 3*Y2*Y1*z1*z1*z1*z2*z2*z2*z2*z2*z2 - 3*Y2*y1*z1*z1*z1*z1*z1*z1*z2*z2*z2*z2*z2*z2 - 2*X2*X2*X2*z1*z1*z1*z1*z1*z1*z2*z2*z2 + 3*X2*X2*x1*z1*z1*z1*z1*z1*z1*z2*z2*z2*z2*z2 + Y1*Y1*z2*z2*z2*z2*z2*z2*z2*z2*z2 + Y1*y1*z1*z1*z1*z2*z2*z2*z2*z2*z2*z2*z2*z2 - x1*x1*x1*z1*z1*z1*z1*z1*z1*z2*z2*z2*z2*z2*z2*z2*z2*z2 + y1*y1*z1*z1*z1*z1*z1*z1*z2*z2*z2*z2*z2*z2*z2*z2*z2) * (Y1-y1*(z1*z1*z1)) + (Y2*X2*X2*z1*z1*z1*z1*z1*z1*z1*z1*z1 + Y2*X2*x2*z1*z1*z1*z1*z1*z1*z1*z1*z1*z2*z2 - 3*Y2*x1*x1*z1*z1*z1*z1*z1*z1*z1*z1*z1*z2*z2*z2*z2 + Y2*x2*x2*z1*z1*z1*z1*z1*z1*z1*z1*z1*z2*z2*z2*z2 + X2*X2*l*l*l*z1*z1*z1*z1*z1*z1*z1*z1*z1*z2*z2*z2 - 2*X2*X2*l*x1*z1*z1*z1*z1*z1*z1*z1*z1*z1*z2*z2*z2 - X2*X2*l*x2*z1*z1*z1*z1*z1*z1*z1*z1*z1*z2*z2*z2 - X2*X2*y1*z1*z1*z1*z1*z1*z1*z1*z1*z1*z2*z2*z2 - 3*X2*l*l*l*x1*z1*z1*z1*z1*z1*z1*z1*z1*z1*z2*z2*z2*z2*z2 + X2*l*l*l*x2*z1*z1*z1*z1*z1*z1*z1*z1*z1*z2*z2*z2*z2*z2 + 6*X2*l*x1*x1*z1*z1*z1*z1*z1*z1*z1*z1*z1*z2*z2*z2*z2*z2 + X2*l*x1*x2*z1*z1*z1*z1*z1*z1*z1*z1*z1*z2*z2*z2*z2*z2 - X2*l*x2*x2*z1*z1*z1*z1*z1*z1*z1*z1*z1*z2*z2*z2*z2*z2 - X2*y1*x2*z1*z1*z1*z1*z1*z1*z1*z1*z1*z2*z2*z2*z2*z2 + 3*l*l*l*x1*x1*z1*z1*z1*z1*z1*z1*z1*z1*z1*z2*z2*z2*z2*z2*z2*z2 - 3*l*l*l*x1*x2*z1*z1*z1*z1*z1*z1*z1*z1*z1*z2*z2*z2*z2*z2*z2*z2 + l*l*l*x2*x2*z1*z1*z1*z1*z1*z1*z1*z1*z1*z2*z2*z2*z2*z2*z2*z2 - 6*l*x1*x1*x1*z1*z1*z1*z1*z1*z1*z1*z1*z1*z2*z2*z2*z2*z2*z2*z2 + 3*l*x1*x1*x2*z1*z1*z1*z1*z1*z1*z1*z1*z1*z2*z2*z2*z2*z2*z2*z2 + l*x1*x2*x2*z1*z1*z1*z1*z1*z1*z1*z1*z1*z2*z2*z2*z2*z2*z2*z2 - l*x2*x2*x2*z1*z1*z1*z1*z1*z1*z1*z1*z1*z2*z2*z2*z2*z2*z2*z2 + 3*y1*x1*x1*z1*z1*z1*z1*z1*z1*z1*z1*z1*z2*z2*z2*z2*z2*z2*z2 - y1*x2*x2*z1*z1*z1*z1*z1*z1*z1*z1*z1*z2*z2*z2*z2*z2*z2*z2) * (X2-x2*(z2*z2)) + (-Y2*Y2*z1*z1*z1*z1*z1*z1*z1*z1*z1 + Y2*l*x1*z1*z1*z1*z1*z1*z1*z1*z1*z1*z2*z2*z2 - Y2*l*x2*z1*z1*z1*z1*z1*z1*z1*z1*z1*z2*z2*z2 + 2*Y2*y1*z1*z1*z1*z1*z1*z1*z1*z1*z1*z2*z2*z2 - l*l*x1*x1*z1*z1*z1*z1*z1*z1*z1*z1*z1*z2*z2*z2*z2*z2*z2 + 2*l*l*x1*x2*z1*z1*z1*z1*z1*z1*z1*z1*z1*z2*z2*z2*z2*z2*z2 - l*l*x2*x2*z1*z1*z1*z1*z1*z1*z1*z1*z1*z2*z2*z2*z2*z2*z2 - y1*l*x1*z1*z1*z1*z1*z1*z1*z1*z1*z1*z2*z2*z2*z2*z2*z2 + 2*x1*x1*x1*z1*z1*z1*z1*z1*z1*z1*z1*z1*z2*z2*z2*z2*z2*z2 + y1*l*x2*z1*z1*z1*z1*z1*z1*z1*z1*z1*z2*z2*z2*z2*z2*z2 - 3*x1*x1*x2*z1*z1*z1*z1*z1*z1*z1*z1*z1*z2*z2*z2*z2*z2*z2 + x2*x2*x2*z1*z1*z1*z1*z1*z1*z1*z1*z1*z2*z2*z2*z2*z2*z2 - y1*y1*z1*z1*z1*z1*z1*z1*z1*z1*z1*z2*z2*z2*z2*z2*z2) * (Y2-y2*(z2*z2*z2)) := by grind
theorem add_y {p ys xs z3 zz y3 sh rd d x3 c2 rh rr cc hhh hh r t p3 h v s q3 u qz pz Y2 X2 Y1 X1 y2 y1 l x1 x2 z1 z2 : Int} (h0 : p ∣ ys-(l*(x1-xs)-y1)) (h1 : p ∣ xs-(l*l-x1-x2)) (h2 : p ∣ l*(x1-x2)-(y1-y2)) (h3 : p ∣ z3-(h*zz)) (h4 : p ∣ zz-(z1*z2)) (h5 : p ∣ y3-(rd-sh)) (h6 : p ∣ sh-(s*hhh)) (h7 : p ∣ rd-(r*d)) (h8 : p ∣ d-(cc-x3)) (h9 : p ∣ x3-(rh-c2)) (h10 : p ∣ c2-(cc*2)) (h11 : p ∣ rh-(rr-hhh)) (h12 : p ∣ rr-(r*r)) (h13 : p ∣ cc-(u*hh)) (h14 : p ∣ hhh-(hh*h)) (h15 : p ∣ hh-(h*h)) (h16 : p ∣ r-(t-s)) (h17 : p ∣ t-(Y2*p3)) (h18 : p ∣ p3-(pz*z1)) (h19 : p ∣ h-(v-u)) (h20 : p ∣ v-(X2*pz)) (h21 : p ∣ s-(Y1*q3)) (h22 : p ∣ q3-(qz*z2)) (h23 : p ∣ u-(X1*qz)) (h24 : p ∣ qz-(z2*z2)) (h25 : p ∣ pz-(z1*z1)) (h26 : p ∣ X1-x1*(z1*z1)) (h27 : p ∣ Y1-y1*(z1*z1*z1)) (h28 : p ∣ X2-x2*(z2*z2)) (h29 : p ∣ Y2-y2*(z2*z2*z2)) : p ∣ (y3-ys*(z3*z3*z3)) := by
  rw [add_y_e ys xs z3 zz y3 sh rd d x3 c2 rh rr cc hhh hh r t p3 h v s q3 u qz pz Y2 X2 Y1 X1 y2 y1 l x1 x2 z1 z2]
  exact (Int.dvd_add (Int.dvd_add (Int.dvd_add (Int.dvd_add (Int.dvd_add (Int.dvd_add (Int.dvd_add (Int.dvd_add (Int.dvd_add (Int.dvd_add (Int.dvd_add (Int.dvd_add (Int.dvd_add (Int.dvd_add (Int.dvd_add (Int.dvd_add (Int.dvd_add (Int.dvd_add (Int.dvd_add (Int.dvd_add (Int.dvd_add (Int.dvd_add (Int.dvd_add (Int.dvd_add (Int.dvd_add (Int.dvd_add (Int.dvd_add (Int.dvd_add (Int.dvd_add (Int.dvd_trans h0 (Int.dvd_mul_left ..)) (Int.dvd_trans h1 (Int.dvd_mul_left ..))) (Int.dvd_trans h2 (Int.dvd_mul_left ..))) (Int.dvd_trans h3 (Int.dvd_mul_left ..))) (Int.dvd_trans h4 (Int.dvd_mul_left ..))) (Int.dvd_trans h5 (Int.dvd_mul_left ..))) (Int.dvd_trans h6 (Int.dvd_mul_left ..))) (Int.dvd_trans h7 (Int.dvd_mul_left ..))) (Int.dvd_trans h8 (Int.dvd_mul_left ..))) (Int.dvd_trans h9 (Int.dvd_mul_left ..))) (Int.dvd_trans h10 (Int.dvd_mul_left ..))) (Int.dvd_trans h11 (Int.dvd_mul_left ..))) (Int.dvd_trans h12 (Int.dvd_mul_left ..))) (Int.dvd_trans h13 (Int.dvd_mul_left ..))) (Int.dvd_trans h14 (Int.dvd_mul_left ..))) (Int.dvd_trans h15 (Int.dvd_mul_left ..))) (Int.dvd_trans h16 (Int.dvd_mul_left ..))) (Int.dvd_trans h17 (Int.dvd_mul_left ..))) (Int.dvd_trans h18 (Int.dvd_mul_left ..))) (Int.dvd_trans h19 (Int.dvd_mul_left ..))) (Int.dvd_trans h20 (Int.dvd_mul_left ..))) (Int.dvd_trans h21 (Int.dvd_mul_left ..))) (Int.dvd_trans h22 (Int.dvd_mul_left ..))) (Int.dvd_trans h23 (Int.dvd_mul_left ..))) (Int.dvd_trans h24 (Int.dvd_mul_left ..))) (Int.dvd_trans h25 (Int.dvd_mul_left ..))) (Int.dvd_trans h26 (Int.dvd_mul_left ..))) (Int.dvd_trans h27 (Int.dvd_mul_left ..))) (Int.dvd_trans h28 (Int.dvd_mul_left ..))) (Int.dvd_trans h29 (Int.dvd_mul_left ..)))

theorem nar_x_e (x3 s2 X x z i : Int) : (x3-x) = (1) * (x3-(X*s2)) + (X) * (s2-(i*i)) + (i*i) * (X-x*(z*z)) + (x*z*i + x) * (z*i-1) := by grind
theorem nar_x {p x3 s2 X x z i : Int} (h0 : p ∣ x3-(X*s2)) (h1 : p ∣ s2-(i*i)) (h2 : p ∣ X-x*(z*z)) (h3 : p ∣ z*i-1) : p ∣ (x3-x) := by
  rw [nar_x_e x3 s2 X x z i]
  exact (Int.dvd_add (Int.dvd_add (Int.dvd_add (Int.dvd_trans h0 (Int.dvd_mul_left ..)) (Int.dvd_trans h1 (Int.dvd_mul_left ..))) (Int.dvd_trans h2 (Int.dvd_mul_left ..))) (Int.dvd_trans h3 (Int.dvd_mul_left ..)))

theorem nar_y_e (y3 s3 s2 Y y z i : Int) : (y3-y) = (1) * (y3-(Y*s3)) + (Y) * (s3-(s2*i)) + (Y*i) * (s2-(i*i)) + (i*i*i) * (Y-y*(z*z*z)) + (y*z*z*i*i + y*z*i + y) * (z*i-1) := by grind
theorem nar_y {p y3 s3 s2 Y y z i : Int} (h0 : p ∣ y3-(Y*s3)) (h1 : p ∣ s3-(s2*i)) (h2 : p ∣ s2-(i*i)) (h3 : p ∣ Y-y*(z*z*z)) (h4 : p ∣ z*i-1) : p ∣ (y3-y) := by
  rw [nar_y_e y3 s3 s2 Y y z i]
  exact (Int.dvd_add (Int.dvd_add (Int.dvd_add (Int.dvd_add (Int.dvd_trans h0 (Int.dvd_mul_left ..)) (Int.dvd_trans h1 (Int.dvd_mul_left ..))) (Int.dvd_trans h2 (Int.dvd_mul_left ..))) (Int.dvd_trans h3 (Int.dvd_mul_left ..))) (Int.dvd_trans h4 (Int.dvd_mul_left ..)))

theorem tan_b_e (s x3 xx dx x y iv : Int) : (s*(y+y)-(x*x+x*x+x*x)) = (2*y) * (s-(x3*iv)) + (2*y*iv) * (x3-(3*xx)) + (6*y*iv) * (xx-(x*x)) + (-3*x*x*iv) * (dx-(y+y)) + (3*x*x) * (dx*iv-1) := by grind
theorem tan_b {p s x3 xx dx x y iv : Int} (h0 : p ∣ s-(x3*iv)) (h1 : p ∣ x3-(3*xx)) (h2 : p ∣ xx-(x*x)) (h3 : p ∣ dx-(y+y)) (h4 : p ∣ dx*iv-1) : p ∣ (s*(y+y)-(x*x+x*x+x*x)) := by
  rw [tan_b_e s x3 xx dx x y iv]
  exact (Int.dvd_add (Int.dvd_add (Int.dvd_add (Int.dvd_add (Int.dvd_trans h0 (Int.dvd_mul_left ..)) (Int.dvd_trans h1 (Int.dvd_mul_left ..))) (Int.dvd_trans h2 (Int.dvd_mul_left ..))) (Int.dvd_trans h3 (Int.dvd_mul_left ..))) (Int.dvd_trans h4 (Int.dvd_mul_left ..)))

theorem cho_a_e (s dy dx x1 x2 y1 y2 iv : Int) : (s*(x1-x2)-(y1-y2)) = (x1 - x2) * (s-(dy*iv)) + (x1*iv - x2*iv) * (dy-(y2-y1)) + (-y1*iv + y2*iv) * (dx-(x2-x1)) + (y1 - y2) * (dx*iv-1) := by grind
theorem cho_a {p s dy dx x1 x2 y1 y2 iv : Int} (h0 : p ∣ s-(dy*iv)) (h1 : p ∣ dy-(y2-y1)) (h2 : p ∣ dx-(x2-x1)) (h3 : p ∣ dx*iv-1) : p ∣ (s*(x1-x2)-(y1-y2)) := by
  rw [cho_a_e s dy dx x1 x2 y1 y2 iv]
  exact (Int.dvd_add (Int.dvd_add (Int.dvd_add (Int.dvd_trans h0 (Int.dvd_mul_left ..)) (Int.dvd_trans h1 (Int.dvd_mul_left ..))) (Int.dvd_trans h2 (Int.dvd_mul_left ..))) (Int.dvd_trans h3 (Int.dvd_mul_left ..)))

theorem thd_y_e (y3 e d x y1 x1 t : Int) : (y3-(t*(x1-x)-y1)) = (1) * (y3-(e-y1)) + (1) * (e-(t*d)) + (t) * (d-(x1-x)) := by grind
theorem thd_y {p y3 e d x y1 x1 t : Int} (h0 : p ∣ y3-(e-y1)) (h1 : p ∣ e-(t*d)) (h2 : p ∣ d-(x1-x)) : p ∣ (y3-(t*(x1-x)-y1)) := by
  rw [thd_y_e y3 e d x y1 x1 t]
  exact (Int.dvd_add (Int.dvd_add (Int.dvd_trans h0 (Int.dvd_mul_left ..)) (Int.dvd_trans h1 (Int.dvd_mul_left ..))) (Int.dvd_trans h2 (Int.dvd_mul_left ..)))

theorem thd_x_e (x d a x1 x2 t : Int) : (x-(t*t-x1-x2)) = (1) * (x-(d-x2)) + (1) * (d-(a-x1)) + (1) * (a-(t*t)) := by grind
theorem thd_x {p x d a x1 x2 t : Int} (h0 : p ∣ x-(d-x2)) (h1 : p ∣ d-(a-x1)) (h2 : p ∣ a-(t*t)) : p ∣ (x-(t*t-x1-x2)) := by
  rw [thd_x_e x d a x1 x2 t]
  exact (Int.dvd_add (Int.dvd_add (Int.dvd_trans h0 (Int.dvd_mul_left ..)) (Int.dvd_trans h1 (Int.dvd_mul_left ..))) (Int.dvd_trans h2 (Int.dvd_mul_left ..)))

theorem cv_of_e (z xxx xx y x b : Int) : (y*y-x*x*x-b) = (-1) * (z-(y*y)) + (1) * (z-(xxx+b)) + (1) * (xxx-(xx*x)) + (x) * (xx-(x*x)) := by grind
theorem cv_of {p z xxx xx y x b : Int} (h0 : p ∣ z-(y*y)) (h1 : p ∣ z-(xxx+b)) (h2 : p ∣ xxx-(xx*x)) (h3 : p ∣ xx-(x*x)) : p ∣ (y*y-x*x*x-b) := by
  rw [cv_of_e z xxx xx y x b]
  exact (Int.dvd_add (Int.dvd_add (Int.dvd_add (Int.dvd_trans h0 (Int.dvd_mul_left ..)) (Int.dvd_trans h1 (Int.dvd_mul_left ..))) (Int.dvd_trans h2 (Int.dvd_mul_left ..))) (Int.dvd_trans h3 (Int.dvd_mul_left ..)))

theorem cv_to_e (u z xxx xx y x b : Int) : (u-z) = (1) * (u-(y*y)) + (-1) * (z-(xxx+b)) + (-1) * (xxx-(xx*x)) + (-x) * (xx-(x*x)) + (1) * (y*y-x*x*x-b) := by grind
theorem cv_to {p u z xxx xx y x b : Int} (h0 : p ∣ u-(y*y)) (h1 : p ∣ z-(xxx+b)) (h2 : p ∣ xxx-(xx*x)) (h3 : p ∣ xx-(x*x)) (h4 : p ∣ y*y-x*x*x-b) : p ∣ (u-z) := by
  rw [cv_to_e u z xxx xx y x b]
  exact (Int.dvd_add (Int.dvd_add (Int.dvd_add (Int.dvd_add (Int.dvd_trans h0 (Int.dvd_mul_left ..)) (Int.dvd_trans h1 (Int.dvd_mul_left ..))) (Int.dvd_trans h2 (Int.dvd_mul_left ..))) (Int.dvd_trans h3 (Int.dvd_mul_left ..))) (Int.dvd_trans h4 (Int.dvd_mul_left ..)))

end Go.Proofs.Ytkedomfjjahjnaa

/- Plain laws: what the program's and the reference's points come to is the sum of points of the plain law. No statement of a seat is proved here. -/
namespace Go.Proofs.Ytkedomfjjahjnaa
open Sx Go

abbrev Sm (p : Nat) : Prop := 0 < p ∧ p < 57896044618658097711785492504343953926634992332820282019728792003956564819968

theorem dv_r {p a b : Int} (h2 : p ∣ a) (h1 : p ∣ a - b) : p ∣ b := by
  obtain ⟨k, hk⟩ := h1
  obtain ⟨m, hm⟩ := h2
  exact ⟨m - k, by rw [Int.mul_sub]; omega⟩
theorem md_c {p : Nat} (n : Nat) : (p : Int) ∣ ((n % p : Nat) : Int) - (n : Int) := by
  have := Nat.div_add_mod n p
  refine ⟨-((n / p : Nat) : Int), ?_⟩
  have h : ((p * (n / p) + n % p : Nat) : Int) = (n : Int) := by rw [this]
  rw [Int.natCast_add, Int.natCast_mul] at h
  rw [Int.mul_neg]
  omega
variable {p : Nat}
theorem mulP_c (hp : Sm p) (a b : Elem) : (p : Int) ∣ ((mulP p a b).nat : Int) - ((a.nat : Int) * (b.nat : Int)) := by
  have e : (mulP p a b).nat = a.nat * b.nat % p := rem_nat hp
  rw [e]
  have := md_c (p := p) (a.nat * b.nat)
  rwa [Int.natCast_mul] at this
theorem addP_c (hp : Sm p) (a b : Elem) : (p : Int) ∣ ((addP p a b).nat : Int) - ((a.nat : Int) + (b.nat : Int)) := by
  have e : (addP p a b).nat = (a.nat + b.nat) % p := rem_nat hp
  rw [e]
  have := md_c (p := p) (a.nat + b.nat)
  rwa [Int.natCast_add] at this
theorem negP_c (hp : Sm p) (a : Elem) : (p : Int) ∣ ((negP p a).nat : Int) - -(a.nat : Int) := by
  have e : (negP p a).nat = (p - a.nat % p) % p := rem_nat hp
  rw [e]
  obtain ⟨k, hk⟩ := md_c (p := p) (p - a.nat % p)
  obtain ⟨m, hm⟩ := md_c (p := p) a.nat
  have hlt := Nat.mod_lt a.nat hp.1
  have e2 : ((p - a.nat % p : Nat) : Int) = (p : Int) - ((a.nat % p : Nat) : Int) := by omega
  rw [e2] at hk
  generalize (((p - a.nat % p) % p : Nat) : Int) = u at *
  generalize ((a.nat % p : Nat) : Int) = v at *
  exact ⟨k + 1 - m, by grind⟩
theorem subP_c (hp : Sm p) (a b : Elem) : (p : Int) ∣ ((subP p a b).nat : Int) - ((a.nat : Int) - (b.nat : Int)) := by
  obtain ⟨k, hk⟩ := addP_c hp a (negP p b)
  obtain ⟨m, hm⟩ := negP_c hp b
  unfold subP
  generalize ((addP p a (negP p b)).nat : Int) = u at *
  exact ⟨k + m, by grind⟩
theorem mulP_lt (hp : Sm p) (a b : Elem) : (mulP p a b).nat < p := by
  rw [show (mulP p a b).nat = a.nat * b.nat % p from rem_nat hp]
  exact Nat.mod_lt _ hp.1
theorem addP_lt (hp : Sm p) (a b : Elem) : (addP p a b).nat < p := by
  rw [show (addP p a b).nat = (a.nat + b.nat) % p from rem_nat hp]
  exact Nat.mod_lt _ hp.1
theorem subP_lt (hp : Sm p) (a b : Elem) : (subP p a b).nat < p := addP_lt hp _ _
theorem negP_lt (hp : Sm p) (a : Elem) : (negP p a).nat < p := by
  rw [show (negP p a).nat = (p - a.nat % p) % p from rem_nat hp]
  exact Nat.mod_lt _ hp.1

theorem inv0_c (hp : Sm p) (pr : Pr p) {z : Elem} (hz : ¬ (p : Int) ∣ (z.nat : Int)) : (p : Int) ∣ (z.nat : Int) * ((inv0 p z).nat : Int) - 1 := by
  have h2 := pr.1
  have hz' : ¬ p ∣ z.nat := fun h => hz (Int.natCast_dvd_natCast.2 h)
  have e : Nat.beq (z.nat % p) 0 = false := by
    cases h : Nat.beq (z.nat % p) 0
    · rfl
    · exact absurd (Nat.dvd_of_mod_eq_zero (Nat.eq_of_beq_eq_true h)) hz'
  have e2 : (inv0 p z).nat = z.nat ^ (p - 2) % p := by
    unfold inv0 invP
    rw [e]
    simp only [cond_false]
    have hb : p - 2 < 2 ^ 256 := by have := hp.2; omega
    rw [powM_eq 256 1 _ _ hb (by omega), Nat.one_mul, ← Nat.pow_mod]
    exact rem_nat hp
  rw [e2]
  have hf := fermat pr hz'
  have e3 : z.nat ^ (p - 1) = z.nat * z.nat ^ (p - 2) := by
    rw [show p - 1 = (p - 2) + 1 by omega, Nat.pow_succ, Nat.mul_comm]
  rw [e3] at hf
  obtain ⟨k, hk⟩ := md_c (p := p) (z.nat ^ (p - 2))
  obtain ⟨m, hm⟩ := md_c (p := p) (z.nat * z.nat ^ (p - 2))
  rw [hf] at hm
  rw [Int.natCast_mul] at hm
  generalize ((z.nat ^ (p - 2) % p : Nat) : Int) = u at *
  generalize ((z.nat ^ (p - 2) : Nat) : Int) = v at *
  have hm : (1 : Int) - (z.nat : Int) * v = (p : Int) * m := hm
  exact ⟨(z.nat : Int) * k - m, by grind⟩

def toQ (P : Pt) : PtQ := cond P.2.2 none (some (P.1.nat, P.2.1.nat))

theorem lineP_thd (hp : Sm p) (X Y X2 s : Elem) : Thd p X.nat Y.nat X2.nat s.nat (lineP p X Y X2 s).1.nat (lineP p X Y X2 s).2.1.nat := by
  unfold lineP
  dsimp only
  have h1 := mulP_c hp s s
  have h2 := subP_c hp (mulP p s s) X
  have h3 := subP_c hp (subP p (mulP p s s) X) X2
  generalize subP p (subP p (mulP p s s) X) X2 = x3 at *
  have h4 := subP_c hp X x3
  have h5 := mulP_c hp s (subP p X x3)
  have h6 := subP_c hp (mulP p s (subP p X x3)) Y
  exact ⟨thd_x h3 h2 h1, thd_y h6 h5 h4⟩

theorem line_sum {b : Nat} (c : Cur p b) (hp : Sm p) {X Y X2 Y2 s : Elem} (hP : OnQ p b (some (X.nat, Y.nat))) (hR : OnQ p b (some (X2.nat, Y2.nat))) (hl : Lin p X.nat Y.nat X2.nat Y2.nat s.nat) :
    toQ (lineP p X Y X2 s) = addQ p (some (X.nat, Y.nat)) (some (X2.nat, Y2.nat)) := by
  have h := lineP_thd hp X Y X2 s
  exact (sum_of c (P := (X.nat, Y.nat)) (R := (X2.nat, Y2.nat)) (S := ((lineP p X Y X2 s).1.nat, (lineP p X Y X2 s).2.1.nat)) hP hR hl (subP_lt hp _ _) (subP_lt hp _ _) h).symm

theorem three_nat : (Elem.mk 3 0 0 0).nat = 3 := by decide

/-- The reference's sum. -/
theorem sum_toQ {b : Nat} (c : Cur p b) (hp : Sm p) {P R : Pt} (hP : OnQ p b (toQ P)) (hR : OnQ p b (toQ R)) : toQ (sumPt p P R) = addQ p (toQ P) (toQ R) := by
  obtain ⟨X, Y, i⟩ := P
  obtain ⟨X2, Y2, j⟩ := R
  cases i
  · cases j
    · have hP' : OnQ p b (some (X.nat, Y.nat)) := hP
      have hR' : OnQ p b (some (X2.nat, Y2.nat)) := hR
      have n1 : ¬ (p : Int) ∣ (Y.nat : Int) := c.yne hP'.2.2
      show toQ (sumPt p (X, Y, false) (X2, Y2, false)) = addQ p (some (X.nat, Y.nat)) (some (X2.nat, Y2.nat))
      rcases (Bool.eq_false_or_eq_true (eqE X X2)).symm with h | h
      · have e : sumPt p (X, Y, false) (X2, Y2, false) = lineP p X Y X2 (byP p (subP p Y2 Y) (subP p X2 X)) := by unfold sumPt; simp only [cond_false, h]
        rw [e]
        refine line_sum c hp hP' hR' ?_
        have hx : X.nat ≠ X2.nat := fun e => by rw [nat_inj e, eqE_self] at h; cases h
        have hd := subP_c hp X2 X
        have hn : ¬ (p : Int) ∣ ((subP p X2 X).nat : Int) := fun hn => by
          obtain ⟨k, hk⟩ := hd
          obtain ⟨m, hm⟩ := hn
          exact hx (same_of hP'.1 hR'.1 ⟨k - m, by grind⟩)
        have hi := inv0_c hp c.pr hn
        have hm := mulP_c hp (subP p Y2 Y) (inv0 p (subP p X2 X))
        have hy := subP_c hp Y2 Y
        unfold byP
        generalize subP p X2 X = dx at *
        generalize inv0 p dx = iv at *
        generalize subP p Y2 Y = dy at *
        generalize mulP p dy iv = s at *
        have ha : (p : Int) ∣ (s.nat : Int) * ((X.nat : Int) - X2.nat) - ((Y.nat : Int) - Y2.nat) := cho_a hm hy hd hi
        refine ⟨ha, ?_⟩
        have hn' : ¬ (p : Int) ∣ (X.nat : Int) - X2.nat := fun hh => hx (same_of hP'.1 hR'.1 hh)
        have hc1 : (p : Int) ∣ (Y.nat : Int) * Y.nat - X.nat * X.nat * X.nat - b := hP'.2.2
        have hc2 : (p : Int) ∣ (Y2.nat : Int) * Y2.nat - X2.nat * X2.nat * X2.nat - b := hR'.2.2
        exact (c.pr.euclidZ (chord_b hc1 hc2 ha)).resolve_left hn'
      · rcases (Bool.eq_false_or_eq_true (eqE Y Y2)).symm with h2 | h2
        · have e : sumPt p (X, Y, false) (X2, Y2, false) = inftyP := by unfold sumPt; simp only [cond_false, cond_true, h, h2]
          rw [e]
          refine (if_pos ⟨?_, fun e => ?_⟩).symm
          · show X.nat = X2.nat
            rw [eqE_iff.1 h]
          · rw [nat_inj e, eqE_self] at h2
            cases h2
        · have e : sumPt p (X, Y, false) (X2, Y2, false) = lineP p X Y X2 (byP p (mulP p ⟨3, 0, 0, 0⟩ (mulP p X X)) (addP p Y Y)) := by unfold sumPt; simp only [cond_false, cond_true, h, h2]
          rw [e]
          refine line_sum c hp hP' hR' ?_
          obtain rfl := eqE_iff.1 h
          obtain rfl := eqE_iff.1 h2
          have hd := addP_c hp Y Y
          have hn : ¬ (p : Int) ∣ ((addP p Y Y).nat : Int) := fun hn => by
            obtain ⟨k, hk⟩ := hd
            obtain ⟨m, hm⟩ := hn
            rcases c.pr.euclidZ (a := 2) (b := (Y.nat : Int)) ⟨m - k, by grind⟩ with h | h
            · exact c.no2 h
            · exact n1 h
          have hi := inv0_c hp c.pr hn
          have hm := mulP_c hp (mulP p ⟨3, 0, 0, 0⟩ (mulP p X X)) (inv0 p (addP p Y Y))
          have h3 := mulP_c hp ⟨3, 0, 0, 0⟩ (mulP p X X)
          have h4 := mulP_c hp X X
          rw [three_nat] at h3
          unfold byP
          generalize addP p Y Y = dx at *
          generalize inv0 p dx = iv at *
          generalize mulP p X X = xx at *
          generalize mulP p ⟨3, 0, 0, 0⟩ xx = x3 at *
          generalize mulP p x3 iv = s at *
          exact ⟨⟨0, by rw [Int.sub_self, Int.sub_self, Int.mul_zero, Int.mul_zero]; rfl⟩, tan_b hm h3 h4 hd hi⟩
    · show toQ (sumPt p (X, Y, false) (X2, Y2, true)) = _
      have e : sumPt p (X, Y, false) (X2, Y2, true) = (X, Y, false) := by unfold sumPt; simp only [cond_false, cond_true]
      rw [e]
      rfl
  · have e : sumPt p (X, Y, true) (X2, Y2, j) = (X2, Y2, j) := by unfold sumPt; simp only [cond_true]
    rw [e]
    rfl

theorem two_nat : (Elem.mk 2 0 0 0).nat = 2 := by decide
theorem four_nat : (Elem.mk 4 0 0 0).nat = 4 := by decide
theorem eight_nat : (Elem.mk 8 0 0 0).nat = 8 := by decide
theorem one_nat : (Elem.mk 1 0 0 0).nat = 1 := by decide
theorem nought_nat : (Elem.mk 0 0 0 0).nat = 0 := by decide

/-- A wide point stands for a point. -/
def RepW (p : Nat) (w : Wide) : PtQ → Prop
  | none => w.2.2.nat = 0
  | some P => w.2.2.nat < p ∧ ¬ (p : Int) ∣ (w.2.2.nat : Int) ∧ (p : Int) ∣ (w.1.nat : Int) - (P.1 : Int) * ((w.2.2.nat : Int) * (w.2.2.nat : Int)) ∧
      (p : Int) ∣ (w.2.1.nat : Int) - (P.2 : Int) * ((w.2.2.nat : Int) * (w.2.2.nat : Int) * (w.2.2.nat : Int))

theorem zero_of {e : Elem} (h : e.nat = 0) : zeroE e = true := by rw [zeroE_nat, h]; rfl
theorem zero_not {e : Elem} (h : ¬ (p : Int) ∣ (e.nat : Int)) : zeroE e = false := by
  rw [zeroE_nat]
  cases hb : Nat.beq e.nat 0
  · rfl
  · exact absurd ⟨0, by rw [Nat.eq_of_beq_eq_true hb]; rfl⟩ h

variable {b : Nat}

theorem dbl_rep (c : Cur p b) (hp : Sm p) {w : Wide} {P : PtQ} (hP : OnQ p b P) (h : RepW p w P) : RepW p (dblW p w) (addQ p P P) := by
  obtain ⟨X, Y, Z⟩ := w
  cases P with
  | none =>
    have e : dblW p (X, Y, Z) = (X, Y, Z) := by unfold dblW; rw [zero_of (e := Z) h]; rfl
    rw [e]
    exact h
  | some P =>
    obtain ⟨hz, hzn, hX, hY⟩ := h
    have e : dblW p (X, Y, Z) = dblN p X Y Z := by unfold dblW; rw [zero_not (e := Z) hzn]; rfl
    rw [e]
    cases hs : addQ p (some P) (some P) with
    | none =>
      have : addQ p (some P) (some P) = some (thirdQ p P P (slopeQ p P P)) := if_neg fun h => h.2 rfl
      rw [this] at hs
      cases hs
    | some S =>
      obtain ⟨hS1, hS2, l, hl, ht⟩ := of_sum c hP hP hs
      have hyy := mulP_c hp Y Y
      have ha := mulP_c hp X (mulP p Y Y)
      have hs := mulP_c hp (mulP p X (mulP p Y Y)) ⟨4, 0, 0, 0⟩
      have hb := mulP_c hp X X
      have hm := mulP_c hp (mulP p X X) ⟨3, 0, 0, 0⟩
      unfold dblN timesP
      dsimp only
      rw [four_nat] at hs
      rw [three_nat] at hm
      generalize mulP p (mulP p X X) ⟨3, 0, 0, 0⟩ = m at *
      generalize mulP p (mulP p X (mulP p Y Y)) ⟨4, 0, 0, 0⟩ = s at *
      have hmm := mulP_c hp m m
      have hs2 := mulP_c hp s ⟨2, 0, 0, 0⟩
      rw [two_nat] at hs2
      have hx3 := subP_c hp (mulP p m m) (mulP p s ⟨2, 0, 0, 0⟩)
      generalize subP p (mulP p m m) (mulP p s ⟨2, 0, 0, 0⟩) = x3 at *
      have hd := subP_c hp s x3
      have hmd := mulP_c hp m (subP p s x3)
      have hy4 := mulP_c hp (mulP p Y Y) (mulP p Y Y)
      have hy8 := mulP_c hp (mulP p (mulP p Y Y) (mulP p Y Y)) ⟨8, 0, 0, 0⟩
      rw [eight_nat] at hy8
      have hy3 := subP_c hp (mulP p m (subP p s x3)) (mulP p (mulP p (mulP p Y Y) (mulP p Y Y)) ⟨8, 0, 0, 0⟩)
      have hyz := mulP_c hp Y Z
      have hz3 := mulP_c hp (mulP p Y Z) ⟨2, 0, 0, 0⟩
      rw [two_nat] at hz3
      have hzz := dbl_z hz3 hyz hY
      refine ⟨mulP_lt hp _ _, fun hn => ?_, dbl_x ht.x hl.b hz3 hyz hx3 hs2 hmm hm hb hs ha hyy hX hY, dbl_y ht.y ht.x hl.b hz3 hyz hy3 hy8 hy4 hmd hd hx3 hs2 hmm hm hb hs ha hyy hX hY⟩
      have h2 : (p : Int) ∣ 2 * ((P.2 : Int) * ((Z.nat : Int) * ((Z.nat : Int) * ((Z.nat : Int) * Z.nat)))) := dv_r hn hzz
      rcases c.pr.euclidZ h2 with h | h
      · exact c.no2 h
      · rcases c.pr.euclidZ h with h | h
        · exact c.yne hP.2.2 h
        · rcases c.pr.euclidZ h with h | h
          · exact hzn h
          · rcases c.pr.euclidZ h with h | h
            · exact hzn h
            · rcases c.pr.euclidZ h with h | h <;> exact hzn h

end Go.Proofs.Ytkedomfjjahjnaa

/- Plain laws: the program's products and sums of points are the reference's. No statement of a seat is proved here. -/
namespace Go.Proofs.Ytkedomfjjahjnaa
open Sx Go

theorem add_rep {p b : Nat} (c : Cur p b) (hp : Sm p) {w v : Wide} {P R : PtQ} (hP : OnQ p b P) (hR : OnQ p b R) (h : RepW p w P) (k : RepW p v R) : RepW p (addW p w v) (addQ p P R) := by
  obtain ⟨X1, Y1, Z1⟩ := w
  obtain ⟨X2, Y2, Z2⟩ := v
  cases P with
  | none =>
    have e : addW p (X1, Y1, Z1) (X2, Y2, Z2) = (X2, Y2, Z2) := by unfold addW; rw [zero_of (e := Z1) h]; rfl
    rw [e]
    exact k
  | some P =>
  cases R with
  | none =>
    have e : addW p (X1, Y1, Z1) (X2, Y2, Z2) = (X1, Y1, Z1) := by unfold addW; rw [zero_not (e := Z1) h.2.1, zero_of (e := Z2) k]; rfl
    rw [e]
    exact h
  | some R =>
    have hw := h
    obtain ⟨hz, hzn, hX, hY⟩ := h
    obtain ⟨kz, kzn, kX, kY⟩ := k
    have e : addW p (X1, Y1, Z1) (X2, Y2, Z2) = addL p (X1, Y1, Z1) (X2, Y2, Z2) := by unfold addW; rw [zero_not (e := Z1) hzn, zero_not (e := Z2) kzn]; rfl
    rw [e]
    unfold addL
    dsimp only at *
    have hpz := mulP_c hp Z1 Z1
    have hqz := mulP_c hp Z2 Z2
    have hu := mulP_c hp X1 (mulP p Z2 Z2)
    have hq3 := mulP_c hp (mulP p Z2 Z2) Z2
    have hs := mulP_c hp Y1 (mulP p (mulP p Z2 Z2) Z2)
    have hv := mulP_c hp X2 (mulP p Z1 Z1)
    have hp3 := mulP_c hp (mulP p Z1 Z1) Z1
    have ht := mulP_c hp Y2 (mulP p (mulP p Z1 Z1) Z1)
    generalize mulP p X1 (mulP p Z2 Z2) = u at *
    generalize mulP p Y1 (mulP p (mulP p Z2 Z2) Z2) = s at *
    generalize mulP p X2 (mulP p Z1 Z1) = v at *
    generalize mulP p Y2 (mulP p (mulP p Z1 Z1) Z1) = t at *
    have hh := subP_c hp v u
    have hr := subP_c hp t s
    have lh := subP_lt hp v u
    have lr := subP_lt hp t s
    generalize subP p v u = H at *
    generalize subP p t s = r at *
    have ah := add_h hh hv hu hqz hpz hX kX
    have ar := add_r hr ht hp3 hs hq3 hqz hpz hY kY
    have out : ∀ {a z : Int}, ¬ (p : Int) ∣ z → (p : Int) ∣ a * z → (p : Int) ∣ a := fun hz h => (c.pr.euclidZ h).resolve_right hz
    have mul : ∀ {a z : Int}, ¬ (p : Int) ∣ a → ¬ (p : Int) ∣ z → ¬ (p : Int) ∣ a * z := fun ha hz h => (c.pr.euclidZ h).elim ha hz
    have n4 := mul (mul hzn hzn) (mul kzn kzn)
    have n6 := mul (mul (mul hzn hzn) hzn) (mul (mul kzn kzn) kzn)
    unfold addM
    rcases (Bool.eq_false_or_eq_true (zeroE H)).symm with h1 | h1
    · rw [h1]
      simp only [cond_false]
      have hHn : ¬ (p : Int) ∣ (H.nat : Int) := fun hd => by
        rw [zeroE_nat] at h1
        have := Nat.eq_zero_of_dvd_of_lt (Int.natCast_dvd_natCast.1 hd) lh
        rw [this] at h1
        cases h1
      have hxn : P.1 ≠ R.1 := fun hx => hHn (by
        rw [hx, Int.sub_self, Int.zero_mul, Int.sub_zero] at ah
        exact ah)
      cases hS : addQ p (some P) (some R) with
      | none =>
        have : addQ p (some P) (some R) = some (thirdQ p P R (slopeQ p P R)) := if_neg fun h => hxn h.1
        rw [this] at hS
        cases hS
      | some S =>
        obtain ⟨hS1, hS2, l, hl, hT⟩ := of_sum c hP hR hS
        unfold addN timesP
        dsimp only
        have hhh := mulP_c hp H H
        have hhhh := mulP_c hp (mulP p H H) H
        have hcc := mulP_c hp u (mulP p H H)
        have hrr := mulP_c hp r r
        have hrh := subP_c hp (mulP p r r) (mulP p (mulP p H H) H)
        have hc2 := mulP_c hp (mulP p u (mulP p H H)) ⟨2, 0, 0, 0⟩
        rw [two_nat] at hc2
        have hx3 := subP_c hp (subP p (mulP p r r) (mulP p (mulP p H H) H)) (mulP p (mulP p u (mulP p H H)) ⟨2, 0, 0, 0⟩)
        generalize subP p (subP p (mulP p r r) (mulP p (mulP p H H) H)) (mulP p (mulP p u (mulP p H H)) ⟨2, 0, 0, 0⟩) = x3 at *
        have hd := subP_c hp (mulP p u (mulP p H H)) x3
        have hrd := mulP_c hp r (subP p (mulP p u (mulP p H H)) x3)
        have hsh := mulP_c hp s (mulP p (mulP p H H) H)
        have hy3 := subP_c hp (mulP p r (subP p (mulP p u (mulP p H H)) x3)) (mulP p s (mulP p (mulP p H H) H))
        have hzz := mulP_c hp Z1 Z2
        have hz3 := mulP_c hp H (mulP p Z1 Z2)
        refine ⟨mulP_lt hp _ _, fun hn => ?_, add_x hT.x hl.a hz3 hzz hx3 hc2 hrh hrr hcc hhhh hhh hr ht hp3 hh hv hs hq3 hu hqz hpz hX hY kX kY,
          add_y hT.y hT.x hl.a hz3 hzz hy3 hsh hrd hd hx3 hc2 hrh hrr hcc hhhh hhh hr ht hp3 hh hv hs hq3 hu hqz hpz hX hY kX kY⟩
        have h2 := dv_r hn hz3
        rcases c.pr.euclidZ h2 with h | h
        · exact hHn h
        · have h3 := dv_r h hzz
          exact mul hzn kzn h3
    · rw [h1]
      simp only [cond_true]
      have hH : H.nat = 0 := by rw [zeroE_nat] at h1; exact Nat.eq_of_beq_eq_true h1
      have hx : P.1 = R.1 := by
        rw [hH] at ah
        have : (p : Int) ∣ ((R.1 : Int) - P.1) * ((Z1.nat : Int) * Z1.nat * (Z2.nat * Z2.nat)) := dv_r (Int.dvd_zero _) ah
        exact (same_of hR.1 hP.1 (out n4 this)).symm
      rcases (Bool.eq_false_or_eq_true (zeroE r)).symm with h2 | h2
      · rw [h2]
        simp only [cond_false]
        have hy : P.2 ≠ R.2 := fun hy => by
          rw [hy, Int.sub_self, Int.zero_mul, Int.sub_zero] at ar
          rw [zeroE_nat] at h2
          have := Nat.eq_zero_of_dvd_of_lt (Int.natCast_dvd_natCast.1 ar) lr
          rw [this] at h2
          cases h2
        have : addQ p (some P) (some R) = none := if_pos ⟨hx, hy⟩
        rw [this]
        exact nought_nat
      · rw [h2]
        simp only [cond_true]
        have hr0 : r.nat = 0 := by rw [zeroE_nat] at h2; exact Nat.eq_of_beq_eq_true h2
        have hy : P.2 = R.2 := by
          rw [hr0] at ar
          have : (p : Int) ∣ ((R.2 : Int) - P.2) * ((Z1.nat : Int) * Z1.nat * Z1.nat * (Z2.nat * Z2.nat * Z2.nat)) := dv_r (Int.dvd_zero _) ar
          exact (same_of hR.2.1 hP.2.1 (out n6 this)).symm
        have : R = P := by
          obtain ⟨P1, P2⟩ := P
          obtain ⟨R1, R2⟩ := R
          dsimp only at hx hy
          rw [hx, hy]
        rw [this]
        exact dbl_rep c hp hP hw

/-- Infinity is laid in one way alone. -/
def Can (P : Pt) : Prop := P.2.2 = true → P = inftyP
theorem can_same {P R : Pt} (hP : Can P) (hR : Can R) (h : toQ P = toQ R) : P = R := by
  obtain ⟨X, Y, i⟩ := P
  obtain ⟨X2, Y2, j⟩ := R
  cases i <;> cases j
  · have h : some (X.nat, Y.nat) = some (X2.nat, Y2.nat) := h
    simp only [Option.some.injEq, Prod.mk.injEq] at h
    rw [nat_inj h.1, nat_inj h.2]
  · cases h
  · cases h
  · rw [hP rfl, hR rfl]

theorem narrow_rep {p b : Nat} (c : Cur p b) (hp : Sm p) {w : Wide} {P : PtQ} (hP : OnQ p b P) (h : RepW p w P) : toQ (narrowP p w) = P ∧ Can (narrowP p w) := by
  obtain ⟨X, Y, Z⟩ := w
  cases P with
  | none =>
    have e : narrowP p (X, Y, Z) = inftyP := by unfold narrowP; rw [zero_of (e := Z) h]; rfl
    rw [e]
    exact ⟨rfl, fun _ => rfl⟩
  | some P =>
    obtain ⟨hz, hzn, hX, hY⟩ := h
    have e : narrowP p (X, Y, Z) = narrowI p X Y (inv0 p Z) := by unfold narrowP; rw [zero_not (e := Z) hzn]; rfl
    rw [e]
    refine ⟨?_, fun h => by cases h⟩
    have hi := inv0_c hp c.pr hzn
    unfold narrowI
    have h2 := mulP_c hp (inv0 p Z) (inv0 p Z)
    have h3 := mulP_c hp (mulP p (inv0 p Z) (inv0 p Z)) (inv0 p Z)
    have hx := mulP_c hp X (mulP p (inv0 p Z) (inv0 p Z))
    have hy := mulP_c hp Y (mulP p (mulP p (inv0 p Z) (inv0 p Z)) (inv0 p Z))
    have ex := same_of (mulP_lt hp _ _) hP.1 (nar_x hx h2 hX hi)
    have ey := same_of (mulP_lt hp _ _) hP.2.1 (nar_y hy h3 h2 hY hi)
    show some ((mulP p X (mulP p (inv0 p Z) (inv0 p Z))).nat, (mulP p Y (mulP p (mulP p (inv0 p Z) (inv0 p Z)) (inv0 p Z))).nat) = some P
    rw [ex, ey]

theorem widen_rep {p b : Nat} (c : Cur p b) {P : Pt} : RepW p (widenP P) (toQ P) := by
  obtain ⟨X, Y, i⟩ := P
  cases i
  · have h1 := c.big
    refine ⟨?_, fun h => ?_, ?_, ?_⟩
    · show (Elem.mk 1 0 0 0).nat < p
      rw [one_nat]
      omega
    · have h : (p : Int) ∣ (((Elem.mk 1 0 0 0).nat : Nat) : Int) := h
      rw [one_nat] at h
      have := Int.le_of_dvd (by decide) h
      omega
    · show (p : Int) ∣ (X.nat : Int) - (X.nat : Int) * ((((Elem.mk 1 0 0 0).nat : Nat) : Int) * (((Elem.mk 1 0 0 0).nat : Nat) : Int))
      rw [one_nat]
      exact ⟨0, by simp⟩
    · show (p : Int) ∣ (Y.nat : Int) - (Y.nat : Int) * ((((Elem.mk 1 0 0 0).nat : Nat) : Int) * (((Elem.mk 1 0 0 0).nat : Nat) : Int) * (((Elem.mk 1 0 0 0).nat : Nat) : Int))
      rw [one_nat]
      exact ⟨0, by simp⟩
  · exact nought_nat

theorem can_line {p : Nat} (X Y X2 s : Elem) : Can (lineP p X Y X2 s) := fun h => by cases h
theorem can_sum {p : Nat} {P R : Pt} (hP : Can P) (hR : Can R) : Can (sumPt p P R) := by
  obtain ⟨X, Y, i⟩ := P
  obtain ⟨X2, Y2, j⟩ := R
  unfold sumPt
  cases i
  · cases j
    · simp only [cond_false]
      cases eqE X X2
      · exact can_line _ _ _ _
      · cases eqE Y Y2
        · exact fun _ => rfl
        · exact can_line _ _ _ _
    · exact hP
  · exact hR

theorem bitI_at (k : Elem) {n : Nat} (h : n < 256) : bitI k (255 - (n : Int)) = bitN k.nat (255 - n) := by
  unfold bitI
  rw [decide_eq_true (show (0 : Int) ≤ 255 - (n : Int) by omega), decide_eq_true (show (255 : Int) - (n : Int) < 256 by omega), show ((255 : Int) - (n : Int)).toNat = 255 - n by omega]
  rfl

theorem mul_walk {p b : Nat} (c : Cur p b) (hp : Sm p) (k : Elem) {P : Pt} (hP : OnQ p b (toQ P)) (hc : Can P) : ∀ n, n ≤ 256 →
    RepW p (upto (mulStep p k (widenP P)) wide0 n) (toQ (upto (refStep p k.nat P) inftyP n)) ∧ OnQ p b (toQ (upto (refStep p k.nat P) inftyP n)) ∧ Can (upto (refStep p k.nat P) inftyP n)
  | 0, _ => ⟨nought_nat, trivial, fun _ => rfl⟩
  | n + 1, h => by
    obtain ⟨h1, h2, h3⟩ := mul_walk c hp k hP hc n (by omega)
    show RepW p (mulStep p k (widenP P) n (upto (mulStep p k (widenP P)) wide0 n)) (toQ (refStep p k.nat P n (upto (refStep p k.nat P) inftyP n))) ∧ OnQ p b (toQ (refStep p k.nat P n (upto (refStep p k.nat P) inftyP n))) ∧ Can (refStep p k.nat P n (upto (refStep p k.nat P) inftyP n))
    generalize upto (mulStep p k (widenP P)) wide0 n = w at *
    generalize upto (refStep p k.nat P) inftyP n = Q at *
    have d1 := dbl_rep c hp h2 h1
    have d2 := sum_toQ c hp h2 h2
    have d3 := on_add c h2 h2
    rw [← d2] at d1 d3
    have d4 := can_sum (p := p) h3 h3
    unfold mulStep refStep
    rw [bitI_at k (by omega)]
    cases bitN k.nat (255 - n)
    · exact ⟨d1, d3, d4⟩
    · simp only [cond_true]
      have e2 := sum_toQ c hp d3 hP
      refine ⟨?_, ?_, can_sum d4 hc⟩
      · rw [e2]
        exact add_rep c hp d3 hP d1 (widen_rep c)
      · rw [e2]
        exact on_add c d3 hP

theorem no_cube {p b m : Nat} (pr : Pr p) (h3 : p = 3 * m + 1) (hb0 : 0 < b) (hb : b < p) (hm : Nat.blt m (2 ^ 256) = true) (hk : Nat.beq (pwm p (p - b) m) 1 = false) (x : Int) : ¬ (p : Int) ∣ x * x * x + b := fun hd => by
  have h2 := pr.1
  rw [pwm_eq h2 hm] at hk
  obtain ⟨k, hk1⟩ := hd
  obtain ⟨j, hj⟩ := nm_dvd pr.pos x
  have hn : p ∣ nm p x * nm p x * nm p x + b := Int.natCast_dvd_natCast.1 (by
    rw [Int.natCast_add, Int.natCast_mul, Int.natCast_mul]
    generalize ((nm p x : Nat) : Int) = n at *
    exact ⟨k + j * (n * n + n * x + x * x), by grind⟩)
  generalize nm p x = n at *
  have hpn : ¬ p ∣ n := fun hd => by
    have h1 : p ∣ n * n * n := Nat.dvd_trans hd (Nat.dvd_mul_left ..)
    have := (Nat.dvd_add_right h1).1 hn
    have := Nat.le_of_dvd hb0 this
    omega
  have hf := fermat pr hpn
  have e : n ^ 3 % p = (p - b) % p := by
    obtain ⟨c, hc⟩ := hn
    have hc0 : c ≠ 0 := fun e => by rw [e] at hc; omega
    obtain ⟨d, rfl⟩ : ∃ d, c = d + 1 := ⟨c - 1, by omega⟩
    have : n ^ 3 = (p - b) + p * d := by
      rw [show n ^ 3 = n * n * n by rw [Nat.pow_succ, Nat.pow_succ, Nat.pow_one]]
      rw [Nat.mul_succ] at hc
      omega
    rw [this, Nat.add_mul_mod_self_left]
  have : (p - b) ^ m % p = 1 := by
    rw [Nat.pow_mod, ← e, ← Nat.pow_mod, ← Nat.pow_mul, show 3 * m = p - 1 by omega]
    exact hf
  rw [this] at hk
  cases hk

theorem cur_of {s : Int} (h : sortOk s = true) : Cur (pS s) (bS s).nat := by
  rcases sortOk_cases h with rfl | rfl | rfl | rfl
  · have e : pS 0 = 16513537 := by decide +kernel
    have e2 : (bS 0).nat = 23 := by decide +kernel
    rw [e, e2]
    exact ⟨pr_16513537, by decide, no_cube (m := 5504512) pr_16513537 (by decide) (by decide) (by decide) (by decide +kernel) (by decide +kernel)⟩
  · have e : pS 1 = 16521217 := by decide +kernel
    have e2 : (bS 1).nat = 21 := by decide +kernel
    rw [e, e2]
    exact ⟨pr_16521217, by decide, no_cube (m := 5507072) pr_16521217 (by decide) (by decide) (by decide) (by decide +kernel) (by decide +kernel)⟩
  · have e : pS 2 = 28948022309329048855892746252171976963363056481941560715954676764349967630337 := by decide +kernel
    have e2 : (bS 2).nat = 5 := by decide +kernel
    rw [e, e2]
    exact ⟨pr_28948022309329048855892746252171976963363056481941560715954676764349967630337, by decide, no_cube (m := 9649340769776349618630915417390658987787685493980520238651558921449989210112) pr_28948022309329048855892746252171976963363056481941560715954676764349967630337 (by decide) (by decide) (by decide) (by decide +kernel) (by decide +kernel)⟩
  · have e : pS 3 = 28948022309329048855892746252171976963363056481941647379679742748393362948097 := by decide +kernel
    have e2 : (bS 3).nat = 5 := by decide +kernel
    rw [e, e2]
    exact ⟨pr_28948022309329048855892746252171976963363056481941647379679742748393362948097, by decide, no_cube (m := 9649340769776349618630915417390658987787685493980549126559914249464454316032) pr_28948022309329048855892746252171976963363056481941647379679742748393362948097 (by decide) (by decide) (by decide) (by decide +kernel) (by decide +kernel)⟩

theorem onB_parts {s : Int} {P : Pt} (h : onB s P = true) : sortOk s = true ∧ OnQ (pS s) (bS s).nat (toQ P) ∧ Can P := by
  have hs := onB_sort h
  have hp : Sm (pS s) := pS_pos hs
  obtain ⟨X, Y, i⟩ := P
  refine ⟨hs, ?_⟩
  unfold onB at h
  rw [hs] at h
  simp only [cond_true] at h
  cases i
  · simp only [cond_false] at h
    refine ⟨?_, fun h => by cases h⟩
    rcases (Bool.eq_false_or_eq_true (Nat.blt X.nat (pS s))).symm with h1 | h1
    · rw [h1] at h; cases h
    · rcases (Bool.eq_false_or_eq_true (Nat.blt Y.nat (pS s))).symm with h2 | h2
      · rw [h1, h2] at h; cases h
      · rw [h1, h2] at h
        simp only [cond_true] at h
        have e := eqE_iff.1 h
        have hx : X.nat < pS s := blt_of h1
        have hy : Y.nat < pS s := blt_of h2
        refine ⟨hx, hy, ?_⟩
        have e1 := mulP_c hp Y Y
        have e2 := mulP_c hp X X
        have e3 := mulP_c hp (mulP (pS s) X X) X
        have e4 := addP_c hp (mulP (pS s) (mulP (pS s) X X) X) (bS s)
        rw [e] at e1
        unfold cubeP at e1
        show ((pS s : Nat) : Int) ∣ (Y.nat : Int) * Y.nat - X.nat * X.nat * X.nat - (bS s).nat
        exact cv_of e1 e4 e3 e2
  · simp only [cond_true, Bool.and_eq_true] at h
    refine ⟨trivial, fun _ => ?_⟩
    have z : ∀ {e : Elem}, zeroE e = true → e = ⟨0, 0, 0, 0⟩ := fun {e} h => nat_inj (by rw [zeroE_nat] at h; rw [Nat.eq_of_beq_eq_true h]; exact nought_nat.symm)
    rw [z h.1, z h.2.1]
    rfl

theorem scal_same {s : Int} (h : sortOk s = true) (k : Elem) : (scalP s k).nat = (ofP (pS (ixor s 1)) k).nat := by
  have hp := pS_pos (sort_other h)
  unfold scalP
  rw [show (addP (pS (ixor s 1)) k ⟨0, 0, 0, 0⟩).nat = (k.nat + (Elem.mk 0 0 0 0).nat) % pS (ixor s 1) from rem_nat hp, nought_nat, Nat.add_zero]
  exact (rem_nat hp).symm

theorem mul_same (s : Int) (k : Elem) (P : Pt) : mulPt s k P = mulRef s k P := by
  unfold mulPt mulRef
  rcases (Bool.eq_false_or_eq_true (onB s P)).symm with h | h
  · rw [h]
    rfl
  · rw [h]
    simp only [cond_true]
    obtain ⟨hs, hP, hc⟩ := onB_parts h
    have c := cur_of hs
    have hp : Sm (pS s) := pS_pos hs
    obtain ⟨h1, h2, h3⟩ := mul_walk c hp (scalP s k) hP hc 256 (Nat.le_refl _)
    obtain ⟨n1, n2⟩ := narrow_rep c hp h2 h1
    rw [← scal_same hs]
    exact can_same n2 h3 n1

theorem add_same (s : Int) (P R : Pt) : addPt s P R = sumOn s P R := by
  unfold addPt sumOn
  rcases (Bool.eq_false_or_eq_true (onB s P)).symm with h | h
  · rw [h]
    rfl
  · rcases (Bool.eq_false_or_eq_true (onB s R)).symm with h' | h'
    · rw [h, h']
      rfl
    · rw [h, h']
      simp only [cond_true]
      obtain ⟨hs, hP, hc⟩ := onB_parts h
      obtain ⟨_, hR, hc'⟩ := onB_parts h'
      have c := cur_of hs
      have hp : Sm (pS s) := pS_pos hs
      obtain ⟨n1, n2⟩ := narrow_rep c hp (on_add c hP hR) (add_rep c hp hP hR (widen_rep c) (widen_rep c))
      refine can_same n2 (can_sum hc hc') ?_
      rw [n1, sum_toQ c hp hP hR]

end Go.Proofs.Ytkedomfjjahjnaa

/- The function sigil/sigillaw04.CurveProducts: what it makes of its arguments. No statement of a seat is proved here. -/
namespace Go.Proofs.Ytkedomfjjahjnaa
open Sx Go
set_option maxRecDepth 100000

def lprod_S : FnSpec := ⟨[.val false .int, .val true .elem, .val true (.prod .elem (.prod .elem .bool))], [], true, 0, false⟩

abbrev lprodX : Type := ((Int) × (Elem) × ((Elem × (Elem × Bool))) × Unit) × (Unit)

def lprod_o0 : OutSh := ⟨[.val false .bool], [], false⟩

def lprod_sel : SV → Option OutSh := fun _ => some lprod_o0

def lprod_T (a0 : Int) (a1 : Elem) (a2 : (Elem × (Elem × Bool))) : OT lprod_S.Y :=
  let z0 : Elem × Elem × Bool := mulPt a0 a1 a2
  let z1 : Elem := z0.fst
  let z2 : Elem × Elem × Bool := mulRef a0 a1 a2
  let z3 : Elem := z2.fst
  let z4 : Elem × Bool := z0.snd
  let z5 : Elem := z4.fst
  let z6 : Elem × Bool := z2.snd
  let z7 : Elem := z6.fst
  let z8 : Bool := z1.w0 == z3.w0 && (z1.w1 == z3.w1 && (z1.w2 == z3.w2 && (z1.w3 == z3.w3 && true))) && (z5.w0 == z7.w0 && (z5.w1 == z7.w1 && (z5.w2 == z7.w2 && (z5.w3 == z7.w3 && true))) && (z4.snd == z6.snd && true))
  (.br (decide ((1 : Int) < a0))
  (.br (decide ((0 : UInt64) < a1.w1 ||| a1.w2 ||| a1.w3))
    (.ok ⟨lprod_o0, ((true, ()), ())⟩)
    (.ok ⟨lprod_o0, ((z8, ()), ())⟩))
  (.ok ⟨lprod_o0, ((z8, ()), ())⟩))

theorem lprod_q (x : lprodX) (Q : lprod_S.Y → Prop) : wpf te E_c4alive lamNil 1000 Try.f3 (lprod_S.inp.inj x).tm (lprod_S.inp.inj x).hp (fnK lprod_S lprod_sel Q) (fun _ _ => False) = (lprod_T (x.1.1) (x.1.2.1) (x.1.2.2.1)).wpR Q := by kernel_rfl

theorem lprod_main (pre : lprodX → Bool) (F : lprodX → OT lprod_S.Y) (hF : ∀ (x : lprodX) oy, pre x = true → (F x).run = some oy → (lprod_T (x.1.1) (x.1.2.1) (x.1.2.2.1)).run = some oy) : SummOk Try.prog 3 (lprod_S.summ pre F) :=
  fn_tree te_ok E_c4alive_ok E_c4alive_any (f := 3) (fn := Try.f3) (c := codeOf Try.f3) (by kernel_rfl) (by kernel_rfl) (by kernel_rfl) (S := lprod_S) (k := 0) (by kernel_rfl) (fun R hR => lamOk_nil) (n := 1000) (sel := lprod_sel) (fun v o h => by cases h; rfl) (pre := pre) (F := F) (T := fun x => lprod_T (x.1.1) (x.1.2.1) (x.1.2.2.1)) (fun x Q => lprod_q x Q) hF

theorem pt_same (P : Pt) : (P.1.w0 == P.1.w0 && (P.1.w1 == P.1.w1 && (P.1.w2 == P.1.w2 && (P.1.w3 == P.1.w3 && true))) && (P.2.1.w0 == P.2.1.w0 && (P.2.1.w1 == P.2.1.w1 && (P.2.1.w2 == P.2.1.w2 && (P.2.1.w3 == P.2.1.w3 && true))) && (P.2.2 == P.2.2 && true))) = true := by
  simp only [beq_self_eq_true, Bool.and_self]
def lprod_pre (_ : lprodX) : Bool := true
def lprod_F (_ : lprodX) : OT lprod_S.Y := .ok ⟨lprod_o0, ((true, ()), ())⟩
theorem lprod_ok : SummOk Try.prog 3 (lprod_S.summ lprod_pre lprod_F) := lprod_main _ _ fun x oy hp ho => by
  rw [← ho]
  clear ho
  obtain ⟨⟨s, k, P, ⟨⟩⟩, ⟨⟩⟩ := x
  show (lprod_T s k P).run = some ⟨lprod_o0, ((true, ()), ())⟩
  unfold lprod_T
  rw [mul_same s k P]
  generalize mulRef s k P = Q
  simp only [pt_same]
  by_cases h : (1 : Int) < s
  · refine (OT.run_t (decide_eq_true h)).trans ?_
    rcases (Bool.eq_false_or_eq_true (decide ((0 : UInt64) < k.w1 ||| k.w2 ||| k.w3))).symm with h2 | h2
    · exact (OT.run_f h2).trans rfl
    · exact (OT.run_t h2).trans rfl
  · exact (OT.run_f (decide_eq_false h)).trans rfl

def lprod_summ : Summ := (lprod_S.summ lprod_pre lprod_F)
theorem lprod_known : SummOk Try.prog 3 lprod_summ := lprod_ok
theorem lprod_smono : MonoOk lprod_summ := fn_mono

def E_lprod : Env := envCons 3 lprod_summ E_c4alive
theorem E_lprod_ok : EnvOk Try.prog E_lprod := envOk_cons lprod_known E_c4alive_ok
theorem E_lprod_mono : EnvMono E_lprod := envMono_cons lprod_smono E_c4alive_mono
theorem E_lprod_any : AnyOk Try.prog te E_lprod := any_ok follows te_ok E_lprod_ok E_lprod_mono

end Go.Proofs.Ytkedomfjjahjnaa

/- Plain laws: how often a point counts, and the order that brings all points to infinity. No statement of a seat is proved here. -/
namespace Go.Proofs.Ytkedomfjjahjnaa

/-- So often a point. -/
def mulQ (p : Nat) : Nat → PtQ → PtQ
  | 0, _ => none
  | n + 1, P => addQ p P (mulQ p n P)

variable {p b : Nat}
theorem on_mul (c : Cur p b) {P : PtQ} (hP : OnQ p b P) : ∀ n, OnQ p b (mulQ p n P)
  | 0 => trivial
  | n + 1 => on_add c hP (on_mul c hP n)
theorem mul_one (P : PtQ) : mulQ p 1 P = P := add_none P
theorem mul_none : ∀ n, mulQ p n none = none
  | 0 => rfl
  | n + 1 => mul_none n
theorem mul_plus (c : Cur p b) {P : PtQ} (hP : OnQ p b P) (m : Nat) : ∀ n, mulQ p (n + m) P = addQ p (mulQ p n P) (mulQ p m P)
  | 0 => by rw [Nat.zero_add]; rfl
  | n + 1 => by
    rw [show n + 1 + m = (n + m) + 1 by omega]
    show addQ p P (mulQ p (n + m) P) = addQ p (addQ p P (mulQ p n P)) (mulQ p m P)
    rw [mul_plus c hP m n, add_assoc c hP (on_mul c hP n) (on_mul c hP m)]
theorem mul_times (c : Cur p b) {P : PtQ} (hP : OnQ p b P) (m : Nat) : ∀ n, mulQ p (n * m) P = mulQ p n (mulQ p m P)
  | 0 => by rw [Nat.zero_mul]; rfl
  | n + 1 => by
    rw [show (n + 1) * m = m + n * m by rw [Nat.succ_mul, Nat.add_comm], mul_plus c hP, mul_times c hP m n]
    rfl
theorem mul_comm (c : Cur p b) {P : PtQ} (hP : OnQ p b P) (m n : Nat) : mulQ p n (mulQ p m P) = mulQ p m (mulQ p n P) := by
  rw [← mul_times c hP, ← mul_times c hP, Nat.mul_comm]
theorem add_four (c : Cur p b) {A B C D : PtQ} (hA : OnQ p b A) (hB : OnQ p b B) (hC : OnQ p b C) (hD : OnQ p b D) :
    addQ p (addQ p A B) (addQ p C D) = addQ p (addQ p A C) (addQ p B D) := by
  rw [add_assoc c hA hB (on_add c hC hD), ← add_assoc c hB hC hD, add_comm c hB hC, add_assoc c hC hB hD, ← add_assoc c hA hC (on_add c hB hD)]
theorem mul_add (c : Cur p b) {P R : PtQ} (hP : OnQ p b P) (hR : OnQ p b R) : ∀ n, mulQ p n (addQ p P R) = addQ p (mulQ p n P) (mulQ p n R)
  | 0 => rfl
  | n + 1 => by
    show addQ p (addQ p P R) (mulQ p n (addQ p P R)) = addQ p (addQ p P (mulQ p n P)) (addQ p R (mulQ p n R))
    rw [mul_add c hP hR n, add_four c hP hR (on_mul c hP n) (on_mul c hR n)]
theorem mul_neg (c : Cur p b) {P : PtQ} (hP : OnQ p b P) : ∀ n, mulQ p n (negQ p P) = negQ p (mulQ p n P)
  | 0 => rfl
  | n + 1 => by
    show addQ p (negQ p P) (mulQ p n (negQ p P)) = negQ p (addQ p P (mulQ p n P))
    rw [mul_neg c hP n, neg_add c hP (on_mul c hP n)]
theorem add_cancel (c : Cur p b) {P R T : PtQ} (hP : OnQ p b P) (hR : OnQ p b R) (hT : OnQ p b T) (h : addQ p P R = addQ p P T) : R = T := by
  rw [← cancel c hP hR, h, cancel c hP hT]
theorem two_none (c : Cur p b) {P : PtQ} (h : addQ p P P = none) : P = none := by
  cases P with
  | none => rfl
  | some P =>
    have : addQ p (some P) (some P) = some (thirdQ p P P (slopeQ p P P)) := if_neg fun h => h.2 rfl
    rw [this] at h
    cases h
/-- Both counts that bring infinity have a common divisor that does. -/
theorem mul_gcd (c : Cur p b) {P : PtQ} (hP : OnQ p b P) (m k : Nat) : mulQ p m P = none → mulQ p k P = none → mulQ p (Nat.gcd m k) P = none := by
  induction m, k using Nat.gcd.induction with
  | H0 n => intro _ h; rw [Nat.gcd_zero_left]; exact h
  | H1 m n hm ih =>
    intro h1 h2
    rw [Nat.gcd_rec]
    refine ih ?_ h1
    have e := Nat.div_add_mod n m
    rw [← e, Nat.mul_comm, mul_plus c hP, mul_times c hP, h1, mul_none] at h2
    exact h2
theorem mul_mod (c : Cur p b) {P : PtQ} (hP : OnQ p b P) {q : Nat} (hq : mulQ p q P = none) (n : Nat) : mulQ p (n % q) P = mulQ p n P := by
  have e := Nat.div_add_mod n q
  conv => rhs; rw [← e, Nat.mul_comm, mul_plus c hP, mul_times c hP, hq, mul_none]
  rfl

/-- A point's number, below twice the modulus and 1. -/
def encQ (p : Nat) : PtQ → Nat
  | none => 2 * p
  | some P => 2 * P.1 + P.2 % 2
theorem enc_lt {P : PtQ} (hP : OnQ p b P) : encQ p P < 2 * p + 1 := by
  cases P with
  | none => show 2 * p < _; omega
  | some P =>
    have := hP.1
    show 2 * P.1 + P.2 % 2 < _
    omega
theorem enc_inj (c : Cur p b) (hodd : p % 2 = 1) {P R : PtQ} (hP : OnQ p b P) (hR : OnQ p b R) (h : encQ p P = encQ p R) : P = R := by
  cases P with
  | none =>
    cases R with
    | none => rfl
    | some R =>
      have := hR.1
      have h : 2 * p = 2 * R.1 + R.2 % 2 := h
      omega
  | some P =>
    cases R with
    | none =>
      have := hP.1
      have h : 2 * P.1 + P.2 % 2 = 2 * p := h
      omega
    | some R =>
      obtain ⟨x1, y1⟩ := P
      obtain ⟨x2, y2⟩ := R
      have h : 2 * x1 + y1 % 2 = 2 * x2 + y2 % 2 := h
      have hx : x1 = x2 := by omega
      have hy : y1 % 2 = y2 % 2 := by omega
      by_cases he : y1 = y2
      · rw [hx, he]
      · exfalso
        have ho := opp_of c hP hR ⟨hx, he⟩
        have ho : some (x2, y2) = some (x1, nm p (-(y1 : Int))) := ho
        simp only [Option.some.injEq, Prod.mk.injEq] at ho
        have h2 := ho.2
        have hy1 : y1 < p := hP.2.1
        have h0 : y1 ≠ 0 := fun e => c.yne hP.2.2 (by show (p : Int) ∣ ((y1 : Nat) : Int); rw [e]; exact ⟨0, by simp⟩)
        have h3 : nm p (-(y1 : Int)) = p - y1 := nm_of (by omega) ⟨1, by omega⟩
        omega

/-- Where a point other than infinity has a prime order that is great enough, it is every point's. -/
theorem all_order (c : Cur p b) (hodd : p % 2 = 1) {q : Nat} (hq : Pr q) (hq2 : q % 2 = 1) (h3 : 2 * p + 1 < 3 * q) {G : PtQ} (hG : OnQ p b G) (hne : G ≠ none) (hqG : mulQ p q G = none)
    {P : PtQ} (hP : OnQ p b P) : mulQ p q P = none := by
  apply Classical.byContradiction
  intro hno
  have hord : ∀ i, mulQ p i G = none → q ∣ i := fun i hi => by
    have hg := mul_gcd c hG q i hqG hi
    rcases hq.2 (Nat.gcd q i) (Nat.gcd_dvd_left ..) with e | e
    · rw [e, mul_one] at hg
      exact absurd hg hne
    · rw [← e]
      exact Nat.gcd_dvd_right ..
  have hon := fun i => on_mul c hG i
  have honP := fun i => on_mul c hP i
  -- no point of G's meets P or twice P
  have hp1 : ∀ i, P ≠ mulQ p i G := fun i e => hno (by rw [e, mul_comm c hG, hqG, mul_none])
  have hp2 : ∀ i, addQ p P P ≠ mulQ p i G := fun i e => by
    have hh : ∃ j, mulQ p i G = addQ p (mulQ p j G) (mulQ p j G) := by
      refine ⟨i * ((q + 1) / 2), ?_⟩
      rw [← mul_plus c hG, ← Nat.mul_add, show (q + 1) / 2 + (q + 1) / 2 = q + 1 by omega, Nat.mul_add, mul_plus c hG, mul_times c hG, hqG, mul_none, Nat.mul_one]
      rfl
    obtain ⟨j, hj⟩ := hh
    rw [hj] at e
    have hn := on_neg c (hon j)
    have : addQ p (addQ p (negQ p (mulQ p j G)) P) (addQ p (negQ p (mulQ p j G)) P) = none := by
      rw [add_four c hn hP hn hP, e, add_comm c (on_add c hn hn) (on_add c (hon j) (hon j)), add_four c (hon j) (hon j) hn hn, add_neg c (hon j)]
      rfl
    have h2 := two_none c this
    have h4 := none_of c hn hP h2
    rw [neg_neg c (hon j)] at h4
    exact hp1 j h4
  -- differences of G's points
  have hdiff : ∀ i j A B, OnQ p b A → OnQ p b B → addQ p (mulQ p i G) A = addQ p (mulQ p j G) B → ∃ k, A = addQ p (mulQ p k G) B := fun i j A B hA hB e => by
    refine ⟨(q - i % q) + j, ?_⟩
    have hm : mulQ p (i % q) G = mulQ p i G := mul_mod c hG hqG i
    have hlt := Nat.mod_lt i hq.pos
    have hz : addQ p (mulQ p (q - i % q) G) (mulQ p i G) = none := by
      rw [← hm, ← mul_plus c hG, show q - i % q + i % q = q by omega, hqG]
    rw [mul_plus c hG, add_assoc c (hon _) (hon _) hB, ← e, ← add_assoc c (hon _) (hon _) hA, hz]
    rfl
  have hinj : ∀ i j, i < q → j < q → mulQ p i G = mulQ p j G → i = j := by
    have aux : ∀ i j, i ≤ j → j < q → mulQ p i G = mulQ p j G → i = j := fun i j hij hj e => by
      have e2 : addQ p (mulQ p i G) none = addQ p (mulQ p i G) (mulQ p (j - i) G) := by
        rw [← mul_plus c hG, show i + (j - i) = j by omega, add_none, e]
      have h0 := add_cancel c (hon i) (R := none) trivial (hon _) e2
      have hd := hord _ h0.symm
      by_cases h : j - i = 0
      · omega
      · have := Nat.le_of_dvd (by omega) hd
        omega
    intro i j hi hj e
    rcases Nat.le_total i j with h | h
    · exact aux i j h hj e
    · exact (aux j i h hi e.symm).symm
  let tw : Nat → PtQ := fun k => mulQ p (k / q) P
  let pt : Nat → PtQ := fun k => addQ p (mulQ p (k % q) G) (mulQ p (k / q) P)
  have hpt : ∀ k, OnQ p b (pt k) := fun k => on_add c (hon _) (honP _)
  have hcoset : ∀ i j, i < 3 → j < 3 → (∃ k, mulQ p i P = addQ p (mulQ p k G) (mulQ p j P)) → i = j := by
    have P1 : mulQ p 1 P = P := mul_one P
    have P2 : mulQ p 2 P = addQ p P P := congrArg (addQ p P) (mul_one P)
    have back : ∀ k A B, OnQ p b A → OnQ p b B → A = addQ p (mulQ p k G) B → ∃ k', B = addQ p (mulQ p k' G) A := fun k A B hA hB e => by
      refine hdiff k 0 B A hB hA ?_
      rw [← e]
      rfl
    have n01 : ∀ k, mulQ p 0 P ≠ addQ p (mulQ p k G) (mulQ p 1 P) := fun k e => by
      obtain ⟨k', e'⟩ := back k _ _ (honP 0) (honP 1) e
      rw [P1, show mulQ p 0 P = none from rfl, add_none] at e'
      exact hp1 k' e'
    have n02 : ∀ k, mulQ p 0 P ≠ addQ p (mulQ p k G) (mulQ p 2 P) := fun k e => by
      obtain ⟨k', e'⟩ := back k _ _ (honP 0) (honP 2) e
      rw [P2, show mulQ p 0 P = none from rfl, add_none] at e'
      exact hp2 k' e'
    have n12 : ∀ k, mulQ p 1 P ≠ addQ p (mulQ p k G) (mulQ p 2 P) := fun k e => by
      rw [P1, P2, ← add_assoc c (hon k) hP hP] at e
      have e2 : addQ p P none = addQ p P (addQ p (mulQ p k G) P) := by
        rw [add_none, ← add_assoc c hP (hon k) hP, add_comm c hP (hon k)]
        exact e
      have e3 := add_cancel c hP (R := none) trivial (on_add c (hon k) hP) e2
      obtain ⟨k', e'⟩ := back k none P trivial hP e3
      rw [add_none] at e'
      exact hp1 k' e'
    rintro i j hi hj ⟨k, hk⟩
    apply Classical.byContradiction
    intro hij
    have bk := back k _ _ (honP i) (honP j) hk
    have : (i = 0 ∧ j = 1) ∨ (i = 0 ∧ j = 2) ∨ (i = 1 ∧ j = 2) ∨ (i = 1 ∧ j = 0) ∨ (i = 2 ∧ j = 0) ∨ (i = 2 ∧ j = 1) := by omega
    rcases this with ⟨rfl, rfl⟩ | ⟨rfl, rfl⟩ | ⟨rfl, rfl⟩ | ⟨rfl, rfl⟩ | ⟨rfl, rfl⟩ | ⟨rfl, rfl⟩
    · exact n01 k hk
    · exact n02 k hk
    · exact n12 k hk
    · obtain ⟨k', e⟩ := bk; exact n01 k' e
    · obtain ⟨k', e⟩ := bk; exact n02 k' e
    · obtain ⟨k', e⟩ := bk; exact n12 k' e
  have hptinj : ∀ x ∈ List.range (3 * q), ∀ y ∈ List.range (3 * q), encQ p (pt x) = encQ p (pt y) → x = y := fun x hx y hy e => by
    rw [List.mem_range] at hx hy
    have e := enc_inj c hodd (hpt x) (hpt y) e
    have hdx : x / q < 3 := Nat.div_lt_of_lt_mul (by rw [Nat.mul_comm]; exact hx)
    have hdy : y / q < 3 := Nat.div_lt_of_lt_mul (by rw [Nat.mul_comm]; exact hy)
    have h1 := hcoset (x / q) (y / q) hdx hdy (hdiff _ _ _ _ (honP _) (honP _) e)
    have e : addQ p (mulQ p (x % q) G) (mulQ p (x / q) P) = addQ p (mulQ p (y % q) G) (mulQ p (y / q) P) := e
    rw [h1, add_comm c (hon _) (honP _), add_comm c (hon (y % q)) (honP _)] at e
    have h2 := hinj _ _ (Nat.mod_lt _ hq.pos) (Nat.mod_lt _ hq.pos) (add_cancel c (honP _) (hon _) (hon _) e)
    have e1 := Nat.div_add_mod x q
    have e2 := Nat.div_add_mod y q
    rw [← e1, ← e2, h1, h2]
  have hnd := nodup_map_of (f := fun k => encQ p (pt k)) List.nodup_range hptinj
  have hlen := length_of_sub (l2 := List.range (2 * p + 1)) hnd (fun x hx => by
    obtain ⟨k, _, rfl⟩ := List.mem_map.1 hx
    exact List.mem_range.2 (enc_lt (hpt k)))
  rw [List.length_map, List.length_range, List.length_range] at hlen
  omega

end Go.Proofs.Ytkedomfjjahjnaa

/- Plain laws: a product is so often the point, and the order of the four curves. No statement of a seat is proved here. -/
namespace Go.Proofs.Ytkedomfjjahjnaa
open Sx Go

theorem refMul_walk {p b : Nat} (c : Cur p b) (hp : Sm p) {k : Nat} (hk : k < 2 ^ 256) {P : Pt} (hP : OnQ p b (toQ P)) : ∀ n, n ≤ 256 →
    toQ (upto (refStep p k P) inftyP n) = mulQ p (k / 2 ^ (256 - n)) (toQ P)
  | 0, _ => by
    rw [Nat.sub_zero, Nat.div_eq_of_lt hk]
    rfl
  | n + 1, h => by
    have ih := refMul_walk c hp hk hP n (by omega)
    have ho := on_mul c hP (k / 2 ^ (256 - n))
    show toQ (refStep p k P n (upto (refStep p k P) inftyP n)) = _
    generalize upto (refStep p k P) inftyP n = Q at *
    have hQ : OnQ p b (toQ Q) := by rw [ih]; exact ho
    have d2 := sum_toQ c hp hQ hQ
    have e1 : 256 - n = (255 - n) + 1 := by omega
    have hd : k / 2 ^ (256 - n) = k / 2 ^ (255 - n) / 2 := by rw [e1, Nat.pow_succ, Nat.div_div_eq_div_mul]
    rw [show 256 - (n + 1) = 255 - n by omega]
    rw [hd] at ih ho
    unfold refStep
    cases hb : bitN k (255 - n)
    · have h0 := bitN_not hb
      simp only [cond_false]
      rw [d2, ih, ← mul_plus c hP]
      congr 1
      omega
    · have h0 : k / 2 ^ (255 - n) % 2 = 1 := Nat.eq_of_beq_eq_true hb
      simp only [cond_true]
      have d3 : OnQ p b (toQ (sumPt p Q Q)) := by rw [d2]; exact on_add c hQ hQ
      rw [sum_toQ c hp d3 hP, d2, ih, ← mul_plus c hP, add_comm c (on_mul c hP _) hP]
      show mulQ p (_ + 1) (toQ P) = _
      congr 1
      omega

/-- The reference's product. -/
theorem refMul_toQ {p b : Nat} (c : Cur p b) (hp : Sm p) {k : Nat} (hk : k < 2 ^ 256) {P : Pt} (hP : OnQ p b (toQ P)) : toQ (refMul p k P) = mulQ p k (toQ P) := by
  have h := refMul_walk c hp hk hP 256 (Nat.le_refl _)
  rw [Nat.sub_self, Nat.pow_zero, Nat.div_one] at h
  exact h

theorem onQ_of {p b x y : Nat} (hx : x < p) (hy : y < p) (h : Nat.beq (y * y % p) ((x * x * x + b) % p) = true) : OnQ p b (some (x, y)) := by
  refine ⟨hx, hy, ?_⟩
  have h := Nat.eq_of_beq_eq_true h
  obtain ⟨k, hk⟩ := md_c (p := p) (y * y)
  obtain ⟨m, hm⟩ := md_c (p := p) (x * x * x + b)
  rw [h] at hk
  rw [Int.natCast_mul] at hk
  rw [Int.natCast_add, Int.natCast_mul, Int.natCast_mul] at hm
  show (p : Int) ∣ (y : Int) * y - x * x * x - b
  generalize (((x * x * x + b) % p : Nat) : Int) = r at *
  refine ⟨m - k, ?_⟩
  rw [Int.mul_sub, ← hm, ← hk]
  omega

/-- What is computed of a point that has the order q. -/
def ordB (p q : Nat) (x y : Elem) : Bool := zeroE (upto (mulStep p (ofN q) (widenP (x, y, false))) wide0 256).2.2
theorem ord_G {p b q : Nat} (c : Cur p b) (hp : Sm p) (hq : q < 115792089237316195423570985008687907853269984665640564039457584007913129639936) {x y : Elem} (hG : OnQ p b (some (x.nat, y.nat))) (h : ordB p q x y = true) : mulQ p q (some (x.nat, y.nat)) = none := by
  have hG' : OnQ p b (toQ (x, y, false)) := hG
  obtain ⟨h1, h2, h3⟩ := mul_walk c hp (ofN q) hG' (fun h => by cases h) 256 (Nat.le_refl _)
  have h4 := refMul_walk c hp (k := (ofN q).nat) (nat_lt _) hG' 256 (Nat.le_refl _)
  rw [nat_ofN hq, Nat.sub_self, Nat.pow_zero, Nat.div_one] at h4
  rw [nat_ofN hq] at h1
  have h4 : toQ (upto (refStep p q (x, y, false)) inftyP 256) = mulQ p q (some (x.nat, y.nat)) := h4
  rw [h4] at h1
  unfold ordB at h
  cases hm : mulQ p q (some (x.nat, y.nat)) with
  | none => rfl
  | some S =>
    rw [hm] at h1
    rw [zero_not h1.2.1] at h
    cases h

end Go.Proofs.Ytkedomfjjahjnaa

/- Plain laws: the order of each of the four curves is the other modulus. No statement of a seat is proved here. -/
namespace Go.Proofs.Ytkedomfjjahjnaa
open Sx Go

theorem ord_all {p b q : Nat} (c : Cur p b) (hp : Sm p) (hodd : Nat.beq (p % 2) 1 = true) (hq : Pr q) (hq2 : Nat.beq (q % 2) 1 = true) (hqb : Nat.blt q 115792089237316195423570985008687907853269984665640564039457584007913129639936 = true) (h3 : Nat.blt (2 * p + 1) (3 * q) = true)
    {x y : Elem} (hx : Nat.blt x.nat p = true) (hy : Nat.blt y.nat p = true) (he : Nat.beq (y.nat * y.nat % p) ((x.nat * x.nat * x.nat + b) % p) = true) (h : ordB p q x y = true) {P : PtQ} (hP : OnQ p b P) : mulQ p q P = none := by
  have hG := onQ_of (blt_of hx) (blt_of hy) he
  exact all_order c (Nat.eq_of_beq_eq_true hodd) hq (Nat.eq_of_beq_eq_true hq2) (blt_of h3) hG (fun e => by cases e) (ord_G c hp (blt_of hqb) hG h) hP

theorem p0 : pS 0 = 16513537 := by decide +kernel
theorem p1 : pS 1 = 16521217 := by decide +kernel
theorem p2 : pS 2 = 28948022309329048855892746252171976963363056481941560715954676764349967630337 := by decide +kernel
theorem p3 : pS 3 = 28948022309329048855892746252171976963363056481941647379679742748393362948097 := by decide +kernel
theorem b0 : (bS 0).nat = 23 := by decide +kernel
theorem b1 : (bS 1).nat = 21 := by decide +kernel
theorem b2 : (bS 2).nat = 5 := by decide +kernel
theorem b3 : (bS 3).nat = 5 := by decide +kernel
theorem o0 : ordB 16513537 16521217 ⟨1, 0, 0, 0⟩ ⟨2487377, 0, 0, 0⟩ = true := by decide +kernel
theorem o1 : ordB 16521217 16513537 ⟨1, 0, 0, 0⟩ ⟨7286451, 0, 0, 0⟩ = true := by decide +kernel
theorem o2 : ordB 28948022309329048855892746252171976963363056481941560715954676764349967630337 28948022309329048855892746252171976963363056481941647379679742748393362948097
    (ofN 28948022309329048855892746252171976963363056481941560715954676764349967630336) ⟨2, 0, 0, 0⟩ = true := by decide +kernel
theorem o3 : ordB 28948022309329048855892746252171976963363056481941647379679742748393362948097 28948022309329048855892746252171976963363056481941560715954676764349967630337
    (ofN 28948022309329048855892746252171976963363056481941647379679742748393362948096) ⟨2, 0, 0, 0⟩ = true := by decide +kernel

/-- The order of a curve. -/
theorem ord_of {s : Int} (hs : sortOk s = true) {P : PtQ} (hP : OnQ (pS s) (bS s).nat P) : mulQ (pS s) (pS (ixor s 1)) P = none := by
  have c := cur_of hs
  have hp : Sm (pS s) := pS_pos hs
  rcases sortOk_cases hs with rfl | rfl | rfl | rfl
  · rw [show ixor 0 1 = 1 by decide +kernel]
    rw [p0, p1, b0] at *
    exact ord_all c hp (by decide +kernel) pr_16521217 (by decide +kernel) (by decide +kernel) (by decide +kernel) (by decide +kernel) (by decide +kernel) (by decide +kernel) o0 hP
  · rw [show ixor 1 1 = 0 by decide +kernel]
    rw [p0, p1, b1] at *
    exact ord_all c hp (by decide +kernel) pr_16513537 (by decide +kernel) (by decide +kernel) (by decide +kernel) (by decide +kernel) (by decide +kernel) (by decide +kernel) o1 hP
  · rw [show ixor 2 1 = 3 by decide +kernel]
    rw [p2, p3, b2] at *
    exact ord_all c hp (by decide +kernel) pr_28948022309329048855892746252171976963363056481941647379679742748393362948097 (by decide +kernel) (by decide +kernel) (by decide +kernel) (by decide +kernel) (by decide +kernel) (by decide +kernel) o2 hP
  · rw [show ixor 3 1 = 2 by decide +kernel]
    rw [p2, p3, b3] at *
    exact ord_all c hp (by decide +kernel) pr_28948022309329048855892746252171976963363056481941560715954676764349967630337 (by decide +kernel) (by decide +kernel) (by decide +kernel) (by decide +kernel) (by decide +kernel) (by decide +kernel) o3 hP

end Go.Proofs.Ytkedomfjjahjnaa

/- Plain laws of the program's points: the laws of a group, and counts. No statement of a seat is proved here. -/
namespace Go.Proofs.Ytkedomfjjahjnaa
open Sx Go

theorem onB_of {s : Int} {P : Pt} (hs : sortOk s = true) (h : OnQ (pS s) (bS s).nat (toQ P)) (hc : Can P) : onB s P = true := by
  have hp : Sm (pS s) := pS_pos hs
  obtain ⟨X, Y, i⟩ := P
  cases i
  · obtain ⟨hx, hy, hv⟩ := h
    have hx : X.nat < pS s := hx
    have hy : Y.nat < pS s := hy
    have hv : ((pS s : Nat) : Int) ∣ (Y.nat : Int) * Y.nat - X.nat * X.nat * X.nat - (bS s).nat := hv
    unfold onB
    rw [hs]
    have e1 : Nat.blt X.nat (pS s) = true := Nat.ble_eq_true_of_le hx
    have e2 : Nat.blt Y.nat (pS s) = true := Nat.ble_eq_true_of_le hy
    simp only [cond_true, cond_false, e1, e2]
    refine eqE_iff.2 (nat_inj (same_of (mulP_lt hp _ _) (addP_lt hp _ _) ?_))
    have c1 := mulP_c hp Y Y
    have c2 := mulP_c hp X X
    have c3 := mulP_c hp (mulP (pS s) X X) X
    have c4 := addP_c hp (mulP (pS s) (mulP (pS s) X X) X) (bS s)
    unfold cubeP
    exact cv_to c1 c4 c3 c2 hv
  · rw [hc rfl]
    unfold onB
    rw [hs]
    rfl

theorem can_on {s : Int} {P : Pt} (h : onB s P = true) : Can P := (onB_parts h).2.2
theorem can_inf : Can inftyP := fun _ => rfl

theorem addPt_on {s : Int} {P R : Pt} (hP : onB s P = true) (hR : onB s R = true) : toQ (addPt s P R) = addQ (pS s) (toQ P) (toQ R) ∧ onB s (addPt s P R) = true := by
  obtain ⟨hs, h1, h2⟩ := onB_parts hP
  obtain ⟨_, h3, h4⟩ := onB_parts hR
  have c := cur_of hs
  have hp : Sm (pS s) := pS_pos hs
  have e : addPt s P R = narrowP (pS s) (addW (pS s) (widenP P) (widenP R)) := by unfold addPt; rw [hP, hR]; rfl
  obtain ⟨n1, n2⟩ := narrow_rep c hp (on_add c h1 h3) (add_rep c hp h1 h3 (widen_rep c) (widen_rep c))
  rw [e]
  exact ⟨n1, onB_of hs (by rw [n1]; exact on_add c h1 h3) n2⟩
theorem addPt_off {s : Int} {P R : Pt} (h : onB s P = false ∨ onB s R = false) : addPt s P R = inftyP := by
  unfold addPt
  rcases h with h | h
  · rw [h]; rfl
  · rw [h]
    cases onB s P <;> rfl
theorem addPt_comm (s : Int) (P R : Pt) : addPt s P R = addPt s R P := by
  rcases (Bool.eq_false_or_eq_true (onB s P)).symm with h | h
  · rw [addPt_off (.inl h), addPt_off (.inr h)]
  · rcases (Bool.eq_false_or_eq_true (onB s R)).symm with h' | h'
    · rw [addPt_off (.inr h'), addPt_off (.inl h')]
    · obtain ⟨e1, o1⟩ := addPt_on h h'
      obtain ⟨e2, o2⟩ := addPt_on h' h
      obtain ⟨hs, h1, _⟩ := onB_parts h
      obtain ⟨_, h3, _⟩ := onB_parts h'
      exact can_same (can_on o1) (can_on o2) (by rw [e1, e2, add_comm (cur_of hs) h1 h3])
theorem addPt_assoc {s : Int} {P R T : Pt} (hP : onB s P = true) (hR : onB s R = true) (hT : onB s T = true) : addPt s (addPt s P R) T = addPt s P (addPt s R T) := by
  obtain ⟨e1, o1⟩ := addPt_on hP hR
  obtain ⟨e2, o2⟩ := addPt_on hR hT
  obtain ⟨e3, o3⟩ := addPt_on o1 hT
  obtain ⟨e4, o4⟩ := addPt_on hP o2
  obtain ⟨hs, h1, _⟩ := onB_parts hP
  obtain ⟨_, h2, _⟩ := onB_parts hR
  obtain ⟨_, h3, _⟩ := onB_parts hT
  exact can_same (can_on o3) (can_on o4) (by rw [e3, e4, e1, e2, add_assoc (cur_of hs) h1 h2 h3])
theorem infty_on {s : Int} (hs : sortOk s = true) : onB s inftyP = true := onB_of hs trivial can_inf
theorem addPt_inf {s : Int} {P : Pt} (hP : onB s P = true) : addPt s P inftyP = P := by
  obtain ⟨hs, h1, h2⟩ := onB_parts hP
  obtain ⟨e1, o1⟩ := addPt_on hP (infty_on hs)
  exact can_same (can_on o1) h2 (by rw [e1]; exact add_none _)
theorem negPt_on {s : Int} {P : Pt} (hP : onB s P = true) : toQ (negPt s P) = negQ (pS s) (toQ P) ∧ onB s (negPt s P) = true := by
  obtain ⟨hs, h1, h2⟩ := onB_parts hP
  have c := cur_of hs
  have hp : Sm (pS s) := pS_pos hs
  obtain ⟨X, Y, i⟩ := P
  cases i
  · have e : negPt s (X, Y, false) = (X, negP (pS s) Y, false) := by unfold negPt; rw [hP]; rfl
    rw [e]
    have hn : nm (pS s) (-(Y.nat : Int)) = (negP (pS s) Y).nat := nm_of (negP_lt hp Y) (negP_c hp Y)
    have ht : toQ (X, negP (pS s) Y, false) = negQ (pS s) (toQ (X, Y, false)) := by
      show some (X.nat, (negP (pS s) Y).nat) = some (X.nat, nm (pS s) (-(Y.nat : Int)))
      rw [hn]
    exact ⟨ht, onB_of hs (by rw [ht]; exact on_neg c h1) (fun h => by cases h)⟩
  · have e : negPt s (X, Y, true) = inftyP := by unfold negPt; rw [hP]; rfl
    rw [e]
    exact ⟨rfl, infty_on hs⟩
theorem addPt_neg {s : Int} {P : Pt} (hP : onB s P = true) : addPt s P (negPt s P) = inftyP := by
  obtain ⟨e1, o1⟩ := negPt_on hP
  obtain ⟨e2, o2⟩ := addPt_on hP o1
  obtain ⟨hs, h1, _⟩ := onB_parts hP
  exact can_same (can_on o2) can_inf (by rw [e2, e1, add_neg (cur_of hs) h1]; rfl)

theorem mulPt_on {s : Int} (k : Elem) {P : Pt} (hP : onB s P = true) : toQ (mulPt s k P) = mulQ (pS s) k.nat (toQ P) ∧ onB s (mulPt s k P) = true := by
  obtain ⟨hs, h1, h2⟩ := onB_parts hP
  have c := cur_of hs
  have hp : Sm (pS s) := pS_pos hs
  have hk : (ofP (pS (ixor s 1)) k).nat = k.nat % pS (ixor s 1) := rem_nat (pS_pos (sort_other hs))
  have e : mulPt s k P = refMul (pS s) (ofP (pS (ixor s 1)) k).nat P := by rw [mul_same]; unfold mulRef; rw [hP]; rfl
  have ht : toQ (mulPt s k P) = mulQ (pS s) k.nat (toQ P) := by
    rw [e, refMul_toQ c hp (nat_lt _) h1, hk, mul_mod c h1 (ord_of hs h1)]
  refine ⟨ht, onB_of hs (by rw [ht]; exact on_mul c h1 _) ?_⟩
  rw [e]
  exact (mul_walk c hp (ofP (pS (ixor s 1)) k) h1 h2 256 (Nat.le_refl _)).2.2
theorem mulPt_off {s : Int} (k : Elem) {P : Pt} (h : onB s P = false) : mulPt s k P = inftyP := by
  unfold mulPt
  rw [h]
  rfl

end Go.Proofs.Ytkedomfjjahjnaa

/- The function sigil/sigillaw04.CurveGroup: what it makes of its arguments. No statement of a seat is proved here. -/
namespace Go.Proofs.Ytkedomfjjahjnaa
open Sx Go
set_option maxRecDepth 100000

def lgroup_S : FnSpec := ⟨[.val false .int, .val true (.prod .elem (.prod .elem .bool)), .val true (.prod .elem (.prod .elem .bool)), .val true (.prod .elem (.prod .elem .bool))], [], true, 0, false⟩

abbrev lgroupX : Type := ((Int) × ((Elem × (Elem × Bool))) × ((Elem × (Elem × Bool))) × ((Elem × (Elem × Bool))) × Unit) × (Unit)

def lgroup_o0 : OutSh := ⟨[.val false .bool], [], false⟩

def lgroup_sel : SV → Option OutSh := fun _ => some lgroup_o0

def lgroup_T (a0 : Int) (a1 : (Elem × (Elem × Bool))) (a2 : (Elem × (Elem × Bool))) (a3 : (Elem × (Elem × Bool))) : OT lgroup_S.Y :=
  let z0 : Elem × Elem × Bool := addPt a0 a2 a3
  let z1 : Elem × Elem × Bool := addPt a0 a1 z0
  let z2 : Elem := z1.fst
  let z3 : UInt64 := z2.w0
  let z4 : Elem × Elem × Bool := addPt a0 z0 a1
  let z5 : Elem := z4.fst
  let z6 : UInt64 := z2.w1
  let z7 : UInt64 := z2.w2
  let z8 : UInt64 := z2.w3
  let z9 : Elem × Bool := z1.snd
  let z10 : Elem := z9.fst
  let z11 : UInt64 := z10.w0
  let z12 : Elem × Bool := z4.snd
  let z13 : Elem := z12.fst
  let z14 : UInt64 := z10.w1
  let z15 : UInt64 := z10.w2
  let z16 : UInt64 := z10.w3
  let z17 : Bool := z9.snd
  let z18 : Bool := z3 == z5.w0 && (z6 == z5.w1 && (z7 == z5.w2 && (z8 == z5.w3 && true))) && (z11 == z13.w0 && (z14 == z13.w1 && (z15 == z13.w2 && (z16 == z13.w3 && true))) && (z17 == z12.snd && true))
  let z19 : Elem × Elem × Bool := addPt a0 a1 a2
  let z20 : Elem := z19.fst
  let z21 : Elem × Elem × Bool := addPt a0 a2 a1
  let z22 : Elem := z21.fst
  let z23 : Elem × Bool := z19.snd
  let z24 : Elem := z23.fst
  let z25 : Elem × Bool := z21.snd
  let z26 : Elem := z25.fst
  let z27 : Elem × Elem × Bool := addPt a0 z19 a3
  let z28 : Elem := z27.fst
  let z29 : Elem × Bool := z27.snd
  let z30 : Elem := z29.fst
  let z31 : Elem := { w0 := (0 : UInt64), w1 := (0 : UInt64), w2 := (0 : UInt64), w3 := (0 : UInt64) }
  let z32 : Elem × Elem × Bool := addPt a0 a1 (z31, z31, true)
  let z33 : Elem := z32.fst
  let z34 : Elem × Bool := z32.snd
  let z35 : Elem := z34.fst
  let z36 : Elem × Elem × Bool := addPt a0 a1 (negPt a0 a1)
  let z37 : Elem := z36.fst
  let z38 : Elem × Bool := z36.snd
  let z39 : Elem := z38.fst
  (.br (!onB a0 a1)
  (.ok ⟨lgroup_o0, ((z18, ()), ())⟩)
  (.br (!onB a0 a2)
    (.ok ⟨lgroup_o0, ((z18, ()), ())⟩)
    (.br (!onB a0 a3)
      (.ok ⟨lgroup_o0, ((z18, ()), ())⟩)
      (.br (z20.w0 == z22.w0 && (z20.w1 == z22.w1 && (z20.w2 == z22.w2 && (z20.w3 == z22.w3 && true))) && (z24.w0 == z26.w0 && (z24.w1 == z26.w1 && (z24.w2 == z26.w2 && (z24.w3 == z26.w3 && true))) && (z23.snd == z25.snd && true)))
        (.br (z28.w0 == z3 && (z28.w1 == z6 && (z28.w2 == z7 && (z28.w3 == z8 && true))) && (z30.w0 == z11 && (z30.w1 == z14 && (z30.w2 == z15 && (z30.w3 == z16 && true))) && (z29.snd == z17 && true)))
          (.br (z33.w0 == a1.fst.w0 && (z33.w1 == a1.fst.w1 && (z33.w2 == a1.fst.w2 && (z33.w3 == a1.fst.w3 && true))) && (z35.w0 == a1.snd.fst.w0 && (z35.w1 == a1.snd.fst.w1 && (z35.w2 == a1.snd.fst.w2 && (z35.w3 == a1.snd.fst.w3 && true))) && (z34.snd == a1.snd.snd && true)))
            (.br (z37.w0 == (0 : UInt64) && (z37.w1 == (0 : UInt64) && (z37.w2 == (0 : UInt64) && (z37.w3 == (0 : UInt64) && true))) && (z39.w0 == (0 : UInt64) && (z39.w1 == (0 : UInt64) && (z39.w2 == (0 : UInt64) && (z39.w3 == (0 : UInt64) && true))) && (z38.snd == true && true)))
              (.ok ⟨lgroup_o0, ((onB a0 z19, ()), ())⟩)
              (.ok ⟨lgroup_o0, ((false, ()), ())⟩))
            (.ok ⟨lgroup_o0, ((false, ()), ())⟩))
          (.ok ⟨lgroup_o0, ((false, ()), ())⟩))
        (.ok ⟨lgroup_o0, ((false, ()), ())⟩)))))

theorem lgroup_q (x : lgroupX) (Q : lgroup_S.Y → Prop) : wpf te E_lprod lamNil 1000 Try.f6 (lgroup_S.inp.inj x).tm (lgroup_S.inp.inj x).hp (fnK lgroup_S lgroup_sel Q) (fun _ _ => False) = (lgroup_T (x.1.1) (x.1.2.1) (x.1.2.2.1) (x.1.2.2.2.1)).wpR Q := by kernel_rfl

theorem lgroup_main (pre : lgroupX → Bool) (F : lgroupX → OT lgroup_S.Y) (hF : ∀ (x : lgroupX) oy, pre x = true → (F x).run = some oy → (lgroup_T (x.1.1) (x.1.2.1) (x.1.2.2.1) (x.1.2.2.2.1)).run = some oy) : SummOk Try.prog 6 (lgroup_S.summ pre F) :=
  fn_tree te_ok E_lprod_ok E_lprod_any (f := 6) (fn := Try.f6) (c := codeOf Try.f6) (by kernel_rfl) (by kernel_rfl) (by kernel_rfl) (S := lgroup_S) (k := 0) (by kernel_rfl) (fun R hR => lamOk_nil) (n := 1000) (sel := lgroup_sel) (fun v o h => by cases h; rfl) (pre := pre) (F := F) (T := fun x => lgroup_T (x.1.1) (x.1.2.1) (x.1.2.2.1) (x.1.2.2.2.1)) (fun x Q => lgroup_q x Q) hF

def lgroup_pre (_ : lgroupX) : Bool := true
def lgroup_F (_ : lgroupX) : OT lgroup_S.Y := .ok ⟨lgroup_o0, ((true, ()), ())⟩
theorem lgroup_ok : SummOk Try.prog 6 (lgroup_S.summ lgroup_pre lgroup_F) := lgroup_main _ _ fun x oy hp ho => by
  rw [← ho]
  clear ho
  obtain ⟨⟨s, P, R, T, ⟨⟩⟩, ⟨⟩⟩ := x
  show (lgroup_T s P R T).run = some ⟨lgroup_o0, ((true, ()), ())⟩
  unfold lgroup_T
  dsimp only
  rw [addPt_comm s (addPt s R T) P]
  simp only [pt_same]
  rcases (Bool.eq_false_or_eq_true (onB s P)).symm with h1 | h1
  · exact (OT.run_t (b := !onB s P) (by rw [h1]; rfl)).trans rfl
  · refine (OT.run_f (b := !onB s P) (by rw [h1]; rfl)).trans ?_
    rcases (Bool.eq_false_or_eq_true (onB s R)).symm with h2 | h2
    · exact (OT.run_t (b := !onB s R) (by rw [h2]; rfl)).trans rfl
    · refine (OT.run_f (b := !onB s R) (by rw [h2]; rfl)).trans ?_
      rcases (Bool.eq_false_or_eq_true (onB s T)).symm with h3 | h3
      · exact (OT.run_t (b := !onB s T) (by rw [h3]; rfl)).trans rfl
      · refine (OT.run_f (b := !onB s T) (by rw [h3]; rfl)).trans ?_
        have e1 : addPt s P (⟨0, 0, 0, 0⟩, ⟨0, 0, 0, 0⟩, true) = P := addPt_inf h1
        rw [addPt_comm s R P, addPt_assoc h1 h2 h3, addPt_neg h1, e1, (addPt_on h1 h2).2]
        simp only [pt_same]
        exact (OT.run_t rfl).trans ((OT.run_t rfl).trans ((OT.run_t rfl).trans ((OT.run_t rfl).trans rfl)))

def lgroup_summ : Summ := (lgroup_S.summ lgroup_pre lgroup_F)
theorem lgroup_known : SummOk Try.prog 6 lgroup_summ := lgroup_ok
theorem lgroup_smono : MonoOk lgroup_summ := fn_mono

def E_lgroup : Env := envCons 6 lgroup_summ E_lprod
theorem E_lgroup_ok : EnvOk Try.prog E_lgroup := envOk_cons lgroup_known E_lprod_ok
theorem E_lgroup_mono : EnvMono E_lgroup := envMono_cons lgroup_smono E_lprod_mono
theorem E_lgroup_any : AnyOk Try.prog te E_lgroup := any_ok follows te_ok E_lgroup_ok E_lgroup_mono

end Go.Proofs.Ytkedomfjjahjnaa
