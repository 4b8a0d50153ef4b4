/- A symbolic machine for Go code over plain data, and functions of the program as it shows them. No statement is proved in this file. -/
import Derived.KernelRfl
import Derived.Test.YtkedomfjjahjnaaXd
set_option linter.unusedSimpArgs false
set_option linter.unusedVariables false
set_option linter.unusedSectionVars false

namespace Go.Proofs.Ytkedomfjjahjnaa
open Sx Go
set_option maxRecDepth 100000
def r2of_S : FnSpec := ⟨[.val false .int, .val true .elem], [], true, 0, false⟩
abbrev r2ofX : Type := ((Int) × (Elem) × Unit) × (Unit)
def r2of_s0 : Shape := ⟨60, [(3, .ptr 0 0 0), (4, .ptr 1 0 0), (5, .val false .u64), (6, .val false .u64), (7, .val false .int)], [(0, .row .u64), (1, .row .u64)], 0, true⟩
abbrev r2of_s0X : Type := ((Unit) × (Unit) × (UInt64) × (UInt64) × (Int) × Unit) × ((List (UInt64)) × (List (UInt64)) × Unit)
def r2of_e0_0 : Shape := ⟨60, [(4, .ptr 0 0 0), (6, .val false .u64)], [(0, .row .u64)], 0, true⟩
abbrev r2of_e0_0X : Type := ((Unit) × (UInt64) × Unit) × ((List (UInt64)) × Unit)
def r2of_x0 : SE → Option Shape := xsMk [(0, r2of_e0_0)] none
def r2of_T0 (a5 : UInt64) (a6 : UInt64) (a7 : Int) (c0 : List (UInt64)) (c1 : List (UInt64)) : OT (Sum r2of_s0X LEnd) :=
  let z0 : Bool := inB a7 4
  let z1 : Bool := decide (Int.toNat a7 + 0 < List.length c0)
  let z2 : Bool := !a5 == (0 : UInt64)
  let z3 : UInt64 := List.getD c0 (Int.toNat a7 + 0) (0 : UInt64)
  (.br (decide ((0 : Int) ≤ a7))
  (gd [z0, z1, z2, z0, z1, z2, inR (a7 - (1 : Int))] (.ok (.inl (((), ((), (a5, ((shl64 ((shl64 a6 (32 : Int) + shr64 z3 (32 : Int)) % a5) (32 : Int) + (z3 &&& (4294967295 : UInt64))) % a5, (a7 - (1 : Int), ()))))), (c0, (c1, ()))))))
  (.ok (.inr ⟨(.exit 0, r2of_e0_0), (((), (a6, ())), (c1, ()))⟩)))
def r2of_U0 (s : r2of_s0X) : OT (Sum r2of_s0X LEnd) := r2of_T0 (s.1.2.2.1) (s.1.2.2.2.1) (s.1.2.2.2.2.1) (s.2.1) (s.2.2.1)
theorem r2of_q0 (s : r2of_s0X) (Q : Sum r2of_s0X LEnd → Prop) : wps te E_r2plus lamNil 1000 (loopOf (codeOf Try.f54) 0) (r2of_s0.inj s) (stepK r2of_s0 r2of_x0 (Q : Sum r2of_s0.T LEnd → Prop)) = (r2of_U0 s).wpR Q := by kernel_rfl
def r2of_f0 (g0_0 : r2of_s0X → r2of_e0_0X) (s : r2of_s0X) : OT LEnd := (.ok ⟨(.exit 0, r2of_e0_0), g0_0 s⟩)
def r2of_s2 : Shape := ⟨60, [(3, .ptr 0 0 0), (4, .ptr 1 0 0), (8, .ptr 2 0 0)], [(0, .row .u64), (1, .row .u64), (2, .row .u64)], 0, true⟩
abbrev r2of_s2X : Type := ((Unit) × (Unit) × (Unit) × Unit) × ((List (UInt64)) × (List (UInt64)) × (List (UInt64)) × Unit)
def r2of_e2_2 : Shape := ⟨60, [(3, .ptr 0 0 0), (4, .ptr 1 0 0)], [(0, .row .u64), (1, .row .u64)], 0, true⟩
abbrev r2of_e2_2X : Type := ((Unit) × (Unit) × Unit) × ((List (UInt64)) × (List (UInt64)) × Unit)
def r2of_x2 : SE → Option Shape := xsMk [(2, r2of_e2_2)] none
def r2of_T2 (c0 : List (UInt64)) (c1 : List (UInt64)) (c2 : List (UInt64)) : OT (Sum r2of_s2X LEnd) :=
  let z0 : Nat := List.length c0
  let z1 : Bool := decide (4 ≤ z0)
  let z2 : Bool := decide (4 ≤ List.length c2)
  let z3 : Elem := { w0 := List.getD c0 0 0, w1 := List.getD c0 1 0, w2 := List.getD c0 2 0, w3 := List.getD c0 3 0 }
  let z4 : Elem := { w0 := List.getD c2 0 0, w1 := List.getD c2 1 0, w2 := List.getD c2 2 0, w3 := List.getD c2 3 0 }
  let z5 := (wdif z3 z4).fst
  (gd [z1, z2] (.br (!Nat.blt (Elem.nat z3) (Elem.nat z4))
  (gd [z1, z2, decide ((4 / 1 : Nat) + 0 ≤ z0)] (.ok (.inl (((), ((), ((), ()))), (List.set (List.set (List.set (List.set c0 0 z5.w0) 1 z5.w1) 2 z5.w2) 3 z5.w3, (c1, (c2, ())))))))
  (.ok (.inr ⟨(.exit 2, r2of_e2_2), (((), ((), ())), (c0, (c1, ())))⟩))))
def r2of_U2 (s : r2of_s2X) : OT (Sum r2of_s2X LEnd) := r2of_T2 (s.2.1) (s.2.2.1) (s.2.2.2.1)
theorem r2of_q2 (s : r2of_s2X) (Q : Sum r2of_s2X LEnd → Prop) : wps te E_r2plus lamNil 1000 (loopOf (codeOf Try.f54) 2) (r2of_s2.inj s) (stepK r2of_s2 r2of_x2 (Q : Sum r2of_s2.T LEnd → Prop)) = (r2of_U2 s).wpR Q := by kernel_rfl
def r2of_f2 (g2_2 : r2of_s2X → r2of_e2_2X) (s : r2of_s2X) : OT LEnd := (.ok ⟨(.exit 2, r2of_e2_2), g2_2 s⟩)
def r2of_o0 : OutSh := ⟨[.val true .elem], [], false⟩
def r2of_sel : SV → Option OutSh := fun _ => some r2of_o0
def r2of_T (ok0 : r2of_s0X → Bool) (g0_0 : r2of_s0X → r2of_e0_0X) (ok2 : r2of_s2X → Bool) (g2_2 : r2of_s2X → r2of_e2_2X) (a0 : Int) (a1 : Elem) : OT r2of_S.Y :=
  let z0 : (PUnit × PUnit × UInt64 × UInt64 × Int × PUnit) × List UInt64 × List UInt64 × PUnit := (((), (), litM a0, (0 : UInt64), (3 : Int), ()), [a1.w0, a1.w1, a1.w2, a1.w3], [(0 : UInt64), (0 : UInt64), (0 : UInt64), (0 : UInt64)], ())
  let z1 : Bool := ok0 z0
  let z2 : (PUnit × UInt64 × PUnit) × List UInt64 × PUnit := g0_0 z0
  let z3 := z2.snd.fst
  let z4 : Bool := decide ((4 / 1 : Nat) + 0 ≤ List.length z3)
  let z5 : List UInt64 := List.set (List.set (List.set (List.set z3 0 z2.fst.snd.fst) 1 (0 : UInt64)) 2 (0 : UInt64)) 3 (0 : UInt64)
  let z6 : Bool := decide (4 ≤ List.length z5)
  let z7 : Elem := { w0 := List.getD z5 0 0, w1 := List.getD z5 1 0, w2 := List.getD z5 2 0, w3 := List.getD z5 3 0 }
  let z8 : Elem := (numOf (Int.toNat a0)).fst
  let z9 : (PUnit × PUnit × PUnit × PUnit) × List UInt64 × List UInt64 × List UInt64 × PUnit := (((), (), (), ()), [a1.w0, a1.w1, a1.w2, a1.w3], [(0 : UInt64), (0 : UInt64), (0 : UInt64), (0 : UInt64)], [z8.w0, z8.w1, z8.w2, z8.w3], ())
  let z10 := (g2_2 z9).snd
  let z11 := z10.fst
  let z12 := z10.snd.fst
  let z13 : List UInt64 := lay z12 z11 4 (0 : UInt64)
  (.br (a0 == (0 : Int))
  (gd [z1, z4, z6] (.ok ⟨r2of_o0, ((z7, ()), ())⟩))
  (.br (a0 == (1 : Int))
    (gd [z1, z4, z6] (.ok ⟨r2of_o0, ((z7, ()), ())⟩))
    (.br (sortOk a0)
      (gd [ok2 z9, decide (4 ≤ List.length z11), decide ((4 / 1 : Nat) + 0 ≤ List.length z12), decide (4 ≤ List.length z13)] (.ok ⟨r2of_o0, (({ w0 := List.getD z13 0 0, w1 := List.getD z13 1 0, w2 := List.getD z13 2 0, w3 := List.getD z13 3 0 }, ()), ())⟩))
      (.ok ⟨r2of_o0, (({ w0 := 0, w1 := 0, w2 := 0, w3 := 0 }, ()), ())⟩))))
theorem r2of_q (ok0 : r2of_s0X → Bool) (g0_0 : r2of_s0X → r2of_e0_0X) (ok2 : r2of_s2X → Bool) (g2_2 : r2of_s2X → r2of_e2_2X) (x : r2ofX) (Q : r2of_S.Y → Prop) : wpf te E_r2plus (lamCons 2 (loopF r2of_s2 2 ok2 (r2of_f2 g2_2)) (lamCons 0 (loopF r2of_s0 0 ok0 (r2of_f0 g0_0)) lamNil)) 1000 Try.f54 (r2of_S.inp.inj x).tm (r2of_S.inp.inj x).hp (fnK r2of_S r2of_sel Q) (fun _ _ => False) = (r2of_T ok0 g0_0 ok2 g2_2 (x.1.1) (x.1.2.1)).wpR Q := by kernel_rfl
theorem r2of_main (ok0 : r2of_s0X → Bool) (g0_0 : r2of_s0X → r2of_e0_0X) (ok2 : r2of_s2X → Bool) (g2_2 : r2of_s2X → r2of_e2_2X) (h0 : ∀ s : r2of_s0X, ok0 s = true → ∃ m e, loopRun (r2of_U0) m s = some e ∧ (r2of_f0 g0_0 s).run = some e) (h2 : ∀ s : r2of_s2X, ok2 s = true → ∃ m e, loopRun (r2of_U2) m s = some e ∧ (r2of_f2 g2_2 s).run = some e) (pre : r2ofX → Bool) (F : r2ofX → OT r2of_S.Y) (hF : ∀ (x : r2ofX) oy, pre x = true → (F x).run = some oy → (r2of_T ok0 g0_0 ok2 g2_2 (x.1.1) (x.1.2.1)).run = some oy) : SummOk Try.prog 54 (r2of_S.summ pre F) :=
  fn_tree te_ok E_r2plus_ok E_r2plus_any (f := 54) (fn := Try.f54) (c := codeOf Try.f54) (by kernel_rfl) (by kernel_rfl) (by kernel_rfl) (S := r2of_S) (k := 0) (by kernel_rfl) (fun R hR => (lamOk_cons (c := (codeOf Try.f54)) (by kernel_rfl) (id := 2) (by kernel_rfl) (loop_ok te_ok E_r2plus_ok E_r2plus_any (sh := r2of_s2) hR (xs := r2of_x2) (xsMk_small (by kernel_rfl) (by kernel_rfl) hR) xsMk_pan lamOk_nil (n := 1000) (T := r2of_U2) (fun s Q => r2of_q2 s Q) (ok := ok2) (f := r2of_f2 g2_2) h2) (lamOk_cons (c := (codeOf Try.f54)) (by kernel_rfl) (id := 0) (by kernel_rfl) (loop_ok te_ok E_r2plus_ok E_r2plus_any (sh := r2of_s0) hR (xs := r2of_x0) (xsMk_small (by kernel_rfl) (by kernel_rfl) hR) xsMk_pan lamOk_nil (n := 1000) (T := r2of_U0) (fun s Q => r2of_q0 s Q) (ok := ok0) (f := r2of_f0 g0_0) h0) lamOk_nil))) (n := 1000) (sel := r2of_sel) (fun v o h => by cases h; rfl) (pre := pre) (F := F) (T := fun x => r2of_T ok0 g0_0 ok2 g2_2 (x.1.1) (x.1.2.1)) (fun x Q => r2of_q ok0 g0_0 ok2 g2_2 x Q) hF
theorem of_num {r w m : Nat} : ((r * 4294967296 + w / 4294967296) % m * 4294967296 + w % 4294967296) % m = (r * 18446744073709551616 + w) % m := by
  have e : (r * 4294967296 + w / 4294967296) * 4294967296 + w % 4294967296 = r * 18446744073709551616 + w := by omega
  rw [Nat.add_mod, Nat.mul_mod, Nat.mod_mod, ← Nat.mul_mod, ← Nat.add_mod, e]
theorem of_word {r w m : UInt64} (hs : isSmall m = true) (hr : r.toNat < m.toNat) : (shl64 ((shl64 r 32 + shr64 w 32) % m) 32 + (w &&& 4294967295)) % m = divR r w m := by
  have hm := small_pos hs
  have hb : m.toNat ≤ 16521217 := by rcases isSmall_cases hs with rfl | rfl <;> decide
  have hw := w.toNat_lt
  have e1 : (shl64 r 32).toNat = r.toNat * 4294967296 := by
    have : (shl64 r 32).toNat = r.toNat * 2 ^ 32 % 2 ^ 64 := shl64_nat r 32 (by omega)
    rw [this]
    omega
  have e2 : (shr64 w 32).toNat = w.toNat / 4294967296 := shr64_nat w 32 (by omega)
  have e3 : ((shl64 r 32 + shr64 w 32) % m).toNat = (r.toNat * 4294967296 + w.toNat / 4294967296) % m.toNat := by
    rw [UInt64.toNat_mod, UInt64.toNat_add, e1, e2, Nat.mod_eq_of_lt (a := r.toNat * 4294967296 + w.toNat / 4294967296) (by omega)]
  generalize (shl64 r 32 + shr64 w 32) % m = q at e3
  have hq : q.toNat < m.toNat := by rw [e3]; exact Nat.mod_lt _ hm
  have e4 : (shl64 q 32).toNat = q.toNat * 4294967296 := by
    have : (shl64 q 32).toNat = q.toNat * 2 ^ 32 % 2 ^ 64 := shl64_nat q 32 (by omega)
    rw [this]
    omega
  rw [← UInt64.toNat_inj, divR_nat hm, UInt64.toNat_mod, UInt64.toNat_add, e4, and_mask32, Nat.mod_eq_of_lt (a := q.toNat * 4294967296 + w.toNat % 4294967296) (by omega), e3, of_num]
def r2of_ok0 (s : r2of_s0X) : Bool := decide (s.1.2.2.2.1 = 0 ∧ s.1.2.2.2.2.1 = 3 ∧ s.2.1.length = 4) && isSmall s.1.2.2.1
def r2of_g0 (s : r2of_s0X) : r2of_e0_0X := (((), remL s.2.1 s.1.2.2.1, ()), (s.2.2.1, ()))
theorem r2of_h0 : ∀ s : r2of_s0X, r2of_ok0 s = true → ∃ m e, loopRun r2of_U0 m s = some e ∧ (r2of_f0 r2of_g0 s).run = some e := by
  rintro ⟨⟨⟨⟩, ⟨⟩, sm, r, i, ⟨⟩⟩, ⟨c1, c2, ⟨⟩⟩⟩ h
  simp only [r2of_ok0, Bool.and_eq_true, decide_eq_true_eq] at h
  obtain ⟨⟨rfl, rfl, hl⟩, hs⟩ := h
  have hm := small_pos hs
  have hz : (!(sm == 0)) = true := by rcases isSmall_cases hs with rfl | rfl <;> rfl
  have := (loop_upto (T := r2of_U0) (fun k r => ((((), (), sm, r, 3 - (k : Int), ()), (c1, c2, ())) : r2of_s0X)) (fun k r => divR r (c1.getD (3 - k) 0) sm)
    (fun r => (⟨(.exit 0, r2of_e0_0), (((), r, ()), (c2, ()))⟩ : LEnd)) 4 0 (fun _ r => r.toNat < sm.toNat) hm (fun k r hk hr => ⟨?_, ?_⟩) (fun r hr => ?_)).1
  · obtain ⟨m, hm⟩ := this
    exact ⟨m, _, hm, rfl⟩
  · have e1 : (3 - (k : Int)).toNat = 3 - k := by omega
    have e2 : (3 : Int) - (k : Int) - 1 = 3 - ((k + 1 : Nat) : Int) := by omega
    refine (OT.run_t (decide_eq_true (by dsimp only; omega))).trans ((gd_run ?_).trans ?_)
    · simp only [e1, Nat.add_zero, hl, hz, List.all_cons, List.all_nil, Bool.and_true, Bool.true_and, Bool.and_eq_true]
      exact ⟨inB_of (by omega), decide_eq_true (by omega), inB_of (by omega), decide_eq_true (by omega), inR_of (by omega)⟩
    · simp only [OT.run_ok, e1, e2, Nat.add_zero, of_word hs hr]
  · rw [divR_nat hm]
    exact Nat.mod_lt _ hm
  · exact OT.run_f (decide_eq_false (by dsimp only; omega))
def r2of_ok2 (s : r2of_s2X) : Bool := decide (s.2.1.length = 4 ∧ s.2.2.2.1.length = 4 ∧ 0 < (elemOf s.2.2.2.1).nat)
def r2of_g2 (s : r2of_s2X) : r2of_e2_2X := (((), (), ()), (lst (ofN ((elemOf s.2.1).nat % (elemOf s.2.2.2.1).nat)), s.2.2.1, ()))
theorem r2of_loop2 {M : Elem} {c2 : List UInt64} (hm : 0 < M.nat) : ∀ (n : Nat) (a : Elem), a.nat = n →
    ∃ m, loopRun r2of_U2 m (((), (), (), ()), (lst a, c2, lst M, ())) = some ⟨(.exit 2, r2of_e2_2), (((), (), ()), (lst (ofN (a.nat % M.nat)), c2, ()))⟩ := by
  intro n
  induction n using Nat.strongRecOn with
  | _ n ih =>
    intro a hn
    rcases (Bool.eq_false_or_eq_true (Nat.blt a.nat M.nat)).symm with hb | hb
    · have hle : M.nat ≤ a.nat := by
        rcases Nat.lt_or_ge a.nat M.nat with h | h
        · have : Nat.blt a.nat M.nat = true := Nat.ble_eq_true_of_le h
          rw [this] at hb; cases hb
        · exact h
      have hd := wdif_nat hle
      obtain ⟨m, hm2⟩ := ih (a.nat - M.nat) (by omega) (wdif a M).1 hd
      rw [hd, ← Nat.mod_eq_sub_mod hle] at hm2
      refine ⟨m + 1, loopRun_more ?_ hm2⟩
      refine (gd_run rfl).trans ((OT.run_t (b := !Nat.blt a.nat M.nat) (by rw [hb]; rfl)).trans ((gd_run rfl).trans rfl))
    · have hlt := blt_of hb
      rw [Nat.mod_eq_of_lt hlt, ofN_self]
      refine ⟨1, loopRun_out ?_⟩
      exact (gd_run rfl).trans (OT.run_f (b := !Nat.blt a.nat M.nat) (by rw [hb]; rfl))
theorem r2of_h2 : ∀ s : r2of_s2X, r2of_ok2 s = true → ∃ m e, loopRun r2of_U2 m s = some e ∧ (r2of_f2 r2of_g2 s).run = some e := by
  rintro ⟨⟨⟨⟩, ⟨⟩, ⟨⟩, ⟨⟩⟩, ⟨l, c2, l2, ⟨⟩⟩⟩ h
  have h' := of_decide_eq_true h
  dsimp only at h'
  obtain ⟨h1, h2, h3⟩ := h'
  obtain ⟨a, rfl⟩ : ∃ a, l = lst a := ⟨elemOf l, (lst_elemOf h1).symm⟩
  obtain ⟨M, rfl⟩ : ∃ a, l2 = lst a := ⟨elemOf l2, (lst_elemOf h2).symm⟩
  obtain ⟨m, hm⟩ := r2of_loop2 (c2 := c2) (M := M) h3 _ a rfl
  exact ⟨m, _, hm, rfl⟩
def ofP (p : Nat) (a : Elem) : Elem := ofN (a.nat % p)
def r2of_pre (_ : r2ofX) : Bool := true
def r2of_F (x : r2ofX) : OT r2of_S.Y := .br (sortOk x.1.1) (.ok ⟨r2of_o0, ((ofP (pS x.1.1) x.1.2.1, ()), ())⟩) (.ok ⟨r2of_o0, ((⟨0, 0, 0, 0⟩, ()), ())⟩)
theorem of_little {a : Elem} {p : Nat} {m : UInt64} (hp : p = m.toNat) (hs : isSmall m = true) : (⟨remL (lst a) m, 0, 0, 0⟩ : Elem) = ofP p a := by
  have hm := small_pos hs
  unfold ofP
  rw [remL_nat hs, hp, ofN_small (n := a.nat % m.toNat) (Nat.lt_trans (Nat.mod_lt _ hm) m.toNat_lt)]
theorem of_great {s : Int} {a : Elem} (h0 : (s == 0) = false) (h1 : (s == 1) = false) (hs : sortOk s = true) : (r2of_T r2of_ok0 r2of_g0 r2of_ok2 r2of_g2 s a).run = some ⟨r2of_o0, ((ofP (pS s) a, ()), ())⟩ := by
  refine (OT.run_f h0).trans ((OT.run_f h1).trans ((OT.run_t hs).trans ((gd_run ?_).trans rfl)))
  simp only [List.all_cons, List.all_nil, Bool.and_true, Bool.and_eq_true]
  exact ⟨decide_eq_true ⟨rfl, rfl, (pS_pos hs).1⟩, rfl, rfl, rfl⟩
theorem r2of_ok : SummOk Try.prog 54 (r2of_S.summ r2of_pre r2of_F) := r2of_main r2of_ok0 r2of_g0 r2of_ok2 r2of_g2 r2of_h0 r2of_h2 _ _ fun x oy _ ho => by
  rw [← ho]
  clear ho
  obtain ⟨⟨s, a, ⟨⟩⟩, ⟨⟩⟩ := x
  rcases (Bool.eq_false_or_eq_true (sortOk s)).symm with hs | hs
  · obtain ⟨h0, h1, _, _⟩ := sortOk_not hs
    exact (OT.run_f h0).trans ((OT.run_f h1).trans ((OT.run_f hs).trans (OT.run_f (b := sortOk s) hs).symm))
  · refine Eq.trans ?_ (OT.run_t (b := sortOk s) hs).symm
    show _ = some (⟨r2of_o0, ((ofP (pS s) a, ()), ())⟩ : r2of_S.Y)
    rcases sortOk_cases hs with rfl | rfl | rfl | rfl
    · rw [← of_little (a := a) (p := pS 0) (m := 16513537) (by decide +kernel) rfl]
      refine (OT.run_t rfl).trans ((gd_run ?_).trans rfl)
      exact rfl
    · rw [← of_little (a := a) (p := pS 1) (m := 16521217) (by decide +kernel) rfl]
      refine (OT.run_f rfl).trans ((OT.run_t rfl).trans ((gd_run ?_).trans rfl))
      exact rfl
    · exact of_great rfl rfl rfl
    · exact of_great rfl rfl rfl
def r2of_summ : Summ := (r2of_S.summ r2of_pre r2of_F)
theorem r2of_known : SummOk Try.prog 54 r2of_summ := r2of_ok
theorem r2of_smono : MonoOk r2of_summ := fn_mono
def E_r2of : Env := envCons 54 r2of_summ E_r2plus
theorem E_r2of_ok : EnvOk Try.prog E_r2of := envOk_cons r2of_known E_r2plus_ok
theorem E_r2of_mono : EnvMono E_r2of := envMono_cons r2of_smono E_r2plus_mono
theorem E_r2of_any : AnyOk Try.prog te E_r2of := any_ok follows te_ok E_r2of_ok E_r2of_mono
def r2add_S : FnSpec := ⟨[.val false .int, .val true .elem, .val true .elem], [], true, 0, false⟩
abbrev r2addX : Type := ((Int) × (Elem) × (Elem) × Unit) × (Unit)
def r2add_o0 : OutSh := ⟨[.val true .elem], [], false⟩
def r2add_sel : SV → Option OutSh := fun _ => some r2add_o0
def r2add_T (a0 : Int) (a1 : Elem) (a2 : Elem) : OT r2add_S.Y :=
  let z0 : Bool := sortOk a0
  let z1 : UInt64 := litM a0
  let z2 : Bool := !z1 == (0 : UInt64)
  let z3 : Nat := pS a0
  let z4 : Elem := ofP z3 a1
  let z5 := z4.w0
  let z6 : Elem := ofP z3 a2
  let z7 := z6.w0
  let z8 : Elem := { w0 := (z5 + z7) % z1, w1 := 0, w2 := 0, w3 := 0 }
  let z9 : Elem := { w0 := (z5 + (0 : UInt64)) % z1, w1 := 0, w2 := 0, w3 := 0 }
  let z10 : Elem := { w0 := ((0 : UInt64) + z7) % z1, w1 := 0, w2 := 0, w3 := 0 }
  let z11 : Elem := { w0 := 0 % z1, w1 := 0, w2 := 0, w3 := 0 }
  let z12 : Elem := { w0 := 0, w1 := 0, w2 := 0, w3 := 0 }
  (.br (a0 == (0 : Int))
  (.br (z0)
    (.br (z0)
      (gd [z2] (.ok ⟨r2add_o0, ((z8, ()), ())⟩))
      (gd [z2] (.ok ⟨r2add_o0, ((z9, ()), ())⟩)))
    (.br (z0)
      (gd [z2] (.ok ⟨r2add_o0, ((z10, ()), ())⟩))
      (gd [z2] (.ok ⟨r2add_o0, ((z11, ()), ())⟩))))
  (.br (a0 == (1 : Int))
    (.br (z0)
      (.br (z0)
        (gd [z2] (.ok ⟨r2add_o0, ((z8, ()), ())⟩))
        (gd [z2] (.ok ⟨r2add_o0, ((z9, ()), ())⟩)))
      (.br (z0)
        (gd [z2] (.ok ⟨r2add_o0, ((z10, ()), ())⟩))
        (gd [z2] (.ok ⟨r2add_o0, ((z11, ()), ())⟩))))
    (.br (z0)
      (.br (z0)
        (.br (z0)
          (.ok ⟨r2add_o0, ((ofP z3 (wsum z4 z6).fst, ()), ())⟩)
          (.ok ⟨r2add_o0, ((z12, ()), ())⟩))
        (.br (z0)
          (.ok ⟨r2add_o0, ((ofP z3 (wsum z4 z12).fst, ()), ())⟩)
          (.ok ⟨r2add_o0, ((z12, ()), ())⟩)))
      (.br (z0)
        (.br (z0)
          (.ok ⟨r2add_o0, ((ofP z3 (wsum z12 z6).fst, ()), ())⟩)
          (.ok ⟨r2add_o0, ((z12, ()), ())⟩))
        (.br (z0)
          (.ok ⟨r2add_o0, ((ofP z3 z12, ()), ())⟩)
          (.ok ⟨r2add_o0, ((z12, ()), ())⟩))))))
theorem r2add_q (x : r2addX) (Q : r2add_S.Y → Prop) : wpf te E_r2of lamNil 1000 Try.f43 (r2add_S.inp.inj x).tm (r2add_S.inp.inj x).hp (fnK r2add_S r2add_sel Q) (fun _ _ => False) = (r2add_T (x.1.1) (x.1.2.1) (x.1.2.2.1)).wpR Q := by kernel_rfl
theorem r2add_main (pre : r2addX → Bool) (F : r2addX → OT r2add_S.Y) (hF : ∀ (x : r2addX) oy, pre x = true → (F x).run = some oy → (r2add_T (x.1.1) (x.1.2.1) (x.1.2.2.1)).run = some oy) : SummOk Try.prog 43 (r2add_S.summ pre F) :=
  fn_tree te_ok E_r2of_ok E_r2of_any (f := 43) (fn := Try.f43) (c := codeOf Try.f43) (by kernel_rfl) (by kernel_rfl) (by kernel_rfl) (S := r2add_S) (k := 0) (by kernel_rfl) (fun R hR => lamOk_nil) (n := 1000) (sel := r2add_sel) (fun v o h => by cases h; rfl) (pre := pre) (F := F) (T := fun x => r2add_T (x.1.1) (x.1.2.1) (x.1.2.2.1)) (fun x Q => r2add_q x Q) hF
theorem little_lt {s : Int} (h : s = 0 ∨ s = 1) : pS s = (litM s).toNat ∧ 0 < (litM s).toNat ∧ (litM s).toNat ≤ 16521217 ∧ (!(litM s == 0)) = true := by
  rcases h with rfl | rfl <;> exact ⟨by decide +kernel, by decide +kernel, by decide +kernel, rfl⟩
theorem add_little {s : Int} (h : s = 0 ∨ s = 1) (a b : Elem) : (⟨((ofP (pS s) a).w0 + (ofP (pS s) b).w0) % litM s, 0, 0, 0⟩ : Elem) = addP (pS s) a b := by
  obtain ⟨hp, h0, h1, _⟩ := little_lt h
  rw [hp]
  generalize litM s = m at *
  have ha := Nat.mod_lt a.nat h0
  have hb := Nat.mod_lt b.nat h0
  have hc := Nat.mod_lt (a.nat + b.nat) h0
  unfold addP
  rw [ofN_small (by omega)]
  have e : ((ofP m.toNat a).w0 + (ofP m.toNat b).w0) % m = UInt64.ofNat ((a.nat + b.nat) % m.toNat) := by
    show (UInt64.ofNat (a.nat % m.toNat) + UInt64.ofNat (b.nat % m.toNat)) % m = _
    rw [← UInt64.toNat_inj, UInt64.toNat_mod, UInt64.toNat_add, UInt64.toNat_ofNat', UInt64.toNat_ofNat', UInt64.toNat_ofNat', Nat.mod_eq_of_lt (a := a.nat % m.toNat) (by omega), Nat.mod_eq_of_lt (a := b.nat % m.toNat) (by omega),
      Nat.mod_eq_of_lt (a := a.nat % m.toNat + b.nat % m.toNat) (by omega), Nat.mod_eq_of_lt (a := (a.nat + b.nat) % m.toNat) (by omega), ← Nat.add_mod]
  rw [e]
def r2add_pre (x : r2addX) : Bool := sortOk x.1.1
def r2add_F (x : r2addX) : OT r2add_S.Y := .ok ⟨r2add_o0, ((addP (pS x.1.1) x.1.2.1 x.1.2.2.1, ()), ())⟩
theorem r2add_ok : SummOk Try.prog 43 (r2add_S.summ r2add_pre r2add_F) := r2add_main _ _ fun x oy hp ho => by
  rw [← ho]
  clear ho
  obtain ⟨⟨s, a, b, ⟨⟩⟩, ⟨⟩⟩ := x
  have hs : sortOk s = true := hp
  show _ = some (⟨r2add_o0, ((addP (pS s) a b, ()), ())⟩ : r2add_S.Y)
  have little : (s = 0 ∨ s = 1) → (gd [!(litM s == 0)] (.ok ⟨r2add_o0, ((⟨((ofP (pS s) a).w0 + (ofP (pS s) b).w0) % litM s, 0, 0, 0⟩, ()), ())⟩) : OT r2add_S.Y).run = some (⟨r2add_o0, ((addP (pS s) a b, ()), ())⟩ : r2add_S.Y) := fun h => by
    obtain ⟨_, _, _, hz⟩ := little_lt h
    rw [add_little h]
    exact gd_run (by simp only [hz, List.all_cons, List.all_nil, Bool.and_true])
  by_cases h0 : s = 0
  · exact (OT.run_t (by simpa using h0)).trans ((OT.run_t hs).trans ((OT.run_t hs).trans (little (.inl h0))))
  · refine (OT.run_f (by simpa using h0)).trans ?_
    by_cases h1 : s = 1
    · exact (OT.run_t (by simpa using h1)).trans ((OT.run_t hs).trans ((OT.run_t hs).trans (little (.inr h1))))
    · refine (OT.run_f (by simpa using h1)).trans ((OT.run_t hs).trans ((OT.run_t hs).trans ((OT.run_t hs).trans ?_)))
      have e : ofP (pS s) (wsum (ofP (pS s) a) (ofP (pS s) b)).1 = addP (pS s) a b := addP_eq (pS_pos hs) a b
      show some (⟨r2add_o0, ((ofP (pS s) (wsum (ofP (pS s) a) (ofP (pS s) b)).1, ()), ())⟩ : r2add_S.Y) = _
      rw [e]
def r2add_summ : Summ := (r2add_S.summ r2add_pre r2add_F)
theorem r2add_known : SummOk Try.prog 43 r2add_summ := r2add_ok
theorem r2add_smono : MonoOk r2add_summ := fn_mono
def E_r2add : Env := envCons 43 r2add_summ E_r2of
theorem E_r2add_ok : EnvOk Try.prog E_r2add := envOk_cons r2add_known E_r2of_ok
theorem E_r2add_mono : EnvMono E_r2add := envMono_cons r2add_smono E_r2of_mono
theorem E_r2add_any : AnyOk Try.prog te E_r2add := any_ok follows te_ok E_r2add_ok E_r2add_mono
def r2neg_S : FnSpec := ⟨[.val false .int, .val true .elem], [], true, 0, false⟩
abbrev r2negX : Type := ((Int) × (Elem) × Unit) × (Unit)
def r2neg_o0 : OutSh := ⟨[.val true .elem], [], false⟩
def r2neg_sel : SV → Option OutSh := fun _ => some r2neg_o0
def r2neg_T (a0 : Int) (a1 : Elem) : OT r2neg_S.Y :=
  let z0 : Bool := sortOk a0
  let z1 : Nat := pS a0
  let z2 : Elem := (numOf (Int.toNat a0)).fst
  let z3 : Elem := { w0 := 0, w1 := 0, w2 := 0, w3 := 0 }
  (.br (z0)
  (.br (z0)
    (.br (z0)
      (.ok ⟨r2neg_o0, ((ofP z1 (wdif z2 (ofP z1 a1)).fst, ()), ())⟩)
      (.ok ⟨r2neg_o0, ((z3, ()), ())⟩))
    (.br (z0)
      (.ok ⟨r2neg_o0, ((ofP z1 (wdif z2 z3).fst, ()), ())⟩)
      (.ok ⟨r2neg_o0, ((z3, ()), ())⟩)))
  (.ok ⟨r2neg_o0, ((z3, ()), ())⟩))
theorem r2neg_q (x : r2negX) (Q : r2neg_S.Y → Prop) : wpf te E_r2add lamNil 1000 Try.f64 (r2neg_S.inp.inj x).tm (r2neg_S.inp.inj x).hp (fnK r2neg_S r2neg_sel Q) (fun _ _ => False) = (r2neg_T (x.1.1) (x.1.2.1)).wpR Q := by kernel_rfl
theorem r2neg_main (pre : r2negX → Bool) (F : r2negX → OT r2neg_S.Y) (hF : ∀ (x : r2negX) oy, pre x = true → (F x).run = some oy → (r2neg_T (x.1.1) (x.1.2.1)).run = some oy) : SummOk Try.prog 64 (r2neg_S.summ pre F) :=
  fn_tree te_ok E_r2add_ok E_r2add_any (f := 64) (fn := Try.f64) (c := codeOf Try.f64) (by kernel_rfl) (by kernel_rfl) (by kernel_rfl) (S := r2neg_S) (k := 0) (by kernel_rfl) (fun R hR => lamOk_nil) (n := 1000) (sel := r2neg_sel) (fun v o h => by cases h; rfl) (pre := pre) (F := F) (T := fun x => r2neg_T (x.1.1) (x.1.2.1)) (fun x Q => r2neg_q x Q) hF
theorem neg_eq {s : Int} (hs : sortOk s = true) (a : Elem) : ofP (pS s) (wdif (numOf s.toNat).1 (ofP (pS s) a)).1 = negP (pS s) a := by
  have hp := pS_pos hs
  have hlt := Nat.mod_lt a.nat hp.1
  have e : (ofP (pS s) a).nat = a.nat % pS s := rem_nat hp
  unfold negP
  have e2 : (wdif (numOf s.toNat).1 (ofP (pS s) a)).1.nat = pS s - a.nat % pS s := by
    rw [wdif_nat (by rw [e]; exact Nat.le_of_lt hlt), e]
    rfl
  show ofN (_ % _) = _
  rw [e2]
def r2neg_pre (x : r2negX) : Bool := sortOk x.1.1
def r2neg_F (x : r2negX) : OT r2neg_S.Y := .ok ⟨r2neg_o0, ((negP (pS x.1.1) x.1.2.1, ()), ())⟩
theorem r2neg_ok : SummOk Try.prog 64 (r2neg_S.summ r2neg_pre r2neg_F) := r2neg_main _ _ fun x oy hp ho => by
  rw [← ho]
  clear ho
  obtain ⟨⟨s, a, ⟨⟩⟩, ⟨⟩⟩ := x
  have hs : sortOk s = true := hp
  show _ = some (⟨r2neg_o0, ((negP (pS s) a, ()), ())⟩ : r2neg_S.Y)
  rw [← neg_eq hs]
  exact (OT.run_t hs).trans ((OT.run_t hs).trans ((OT.run_t hs).trans rfl))
def r2neg_summ : Summ := (r2neg_S.summ r2neg_pre r2neg_F)
theorem r2neg_known : SummOk Try.prog 64 r2neg_summ := r2neg_ok
theorem r2neg_smono : MonoOk r2neg_summ := fn_mono
def E_r2neg : Env := envCons 64 r2neg_summ E_r2add
theorem E_r2neg_ok : EnvOk Try.prog E_r2neg := envOk_cons r2neg_known E_r2add_ok
theorem E_r2neg_mono : EnvMono E_r2neg := envMono_cons r2neg_smono E_r2add_mono
theorem E_r2neg_any : AnyOk Try.prog te E_r2neg := any_ok follows te_ok E_r2neg_ok E_r2neg_mono
def r2sub_S : FnSpec := ⟨[.val false .int, .val true .elem, .val true .elem], [], true, 0, false⟩
abbrev r2subX : Type := ((Int) × (Elem) × (Elem) × Unit) × (Unit)
def r2sub_o0 : OutSh := ⟨[.val true .elem], [], false⟩
def r2sub_sel : SV → Option OutSh := fun _ => some r2sub_o0
def r2sub_T (a0 : Int) (a1 : Elem) (a2 : Elem) : OT r2sub_S.Y :=
  let z0 : Nat := pS a0
  let z1 : Elem := negP z0 a2
  (gd [r2neg_pre ((a0, a2, ()), ()), r2add_pre ((a0, a1, z1, ()), ())] (.ok ⟨r2sub_o0, ((addP z0 a1 z1, ()), ())⟩))
theorem r2sub_q (x : r2subX) (Q : r2sub_S.Y → Prop) : wpf te E_r2neg lamNil 1000 Try.f88 (r2sub_S.inp.inj x).tm (r2sub_S.inp.inj x).hp (fnK r2sub_S r2sub_sel Q) (fun _ _ => False) = (r2sub_T (x.1.1) (x.1.2.1) (x.1.2.2.1)).wpR Q := by kernel_rfl
theorem r2sub_main (pre : r2subX → Bool) (F : r2subX → OT r2sub_S.Y) (hF : ∀ (x : r2subX) oy, pre x = true → (F x).run = some oy → (r2sub_T (x.1.1) (x.1.2.1) (x.1.2.2.1)).run = some oy) : SummOk Try.prog 88 (r2sub_S.summ pre F) :=
  fn_tree te_ok E_r2neg_ok E_r2neg_any (f := 88) (fn := Try.f88) (c := codeOf Try.f88) (by kernel_rfl) (by kernel_rfl) (by kernel_rfl) (S := r2sub_S) (k := 0) (by kernel_rfl) (fun R hR => lamOk_nil) (n := 1000) (sel := r2sub_sel) (fun v o h => by cases h; rfl) (pre := pre) (F := F) (T := fun x => r2sub_T (x.1.1) (x.1.2.1) (x.1.2.2.1)) (fun x Q => r2sub_q x Q) hF
def r2sub_pre (x : r2subX) : Bool := sortOk x.1.1
def r2sub_F (x : r2subX) : OT r2sub_S.Y := .ok ⟨r2sub_o0, ((subP (pS x.1.1) x.1.2.1 x.1.2.2.1, ()), ())⟩
theorem r2sub_ok : SummOk Try.prog 88 (r2sub_S.summ r2sub_pre r2sub_F) := r2sub_main _ _ fun x oy hp ho => by
  rw [← ho]
  clear ho
  obtain ⟨⟨s, a, b, ⟨⟩⟩, ⟨⟩⟩ := x
  have hs : sortOk s = true := hp
  refine (gd_run ?_).trans rfl
  simp only [List.all_cons, List.all_nil, Bool.and_true, Bool.and_eq_true]
  exact ⟨hs, hs⟩
def r2sub_summ : Summ := (r2sub_S.summ r2sub_pre r2sub_F)
theorem r2sub_known : SummOk Try.prog 88 r2sub_summ := r2sub_ok
theorem r2sub_smono : MonoOk r2sub_summ := fn_mono
def E_r2sub : Env := envCons 88 r2sub_summ E_r2neg
theorem E_r2sub_ok : EnvOk Try.prog E_r2sub := envOk_cons r2sub_known E_r2neg_ok
theorem E_r2sub_mono : EnvMono E_r2sub := envMono_cons r2sub_smono E_r2neg_mono
theorem E_r2sub_any : AnyOk Try.prog te E_r2sub := any_ok follows te_ok E_r2sub_ok E_r2sub_mono
def r2mul_S : FnSpec := ⟨[.val false .int, .val true .elem, .val true .elem], [], true, 0, false⟩
abbrev r2mulX : Type := ((Int) × (Elem) × (Elem) × Unit) × (Unit)
def r2mul_s0 : Shape := ⟨80, [(4, .ptr 0 0 0), (5, .ptr 1 0 0), (6, .ptr 2 0 0), (7, .ptr 3 0 0), (9, .ptr 4 0 0), (10, .val false .int)], [(0, .row .u64), (1, .row .u64), (2, .row .u64), (3, .row .u64), (4, .row .u64)], 0, true⟩
abbrev r2mul_s0X : Type := ((Unit) × (Unit) × (Unit) × (Unit) × (Unit) × (Int) × Unit) × ((List (UInt64)) × (List (UInt64)) × (List (UInt64)) × (List (UInt64)) × (List (UInt64)) × Unit)
def r2mul_e0_0 : Shape := ⟨80, [(6, .ptr 0 0 0), (9, .ptr 1 0 0)], [(0, .row .u64), (1, .row .u64)], 0, true⟩
abbrev r2mul_e0_0X : Type := ((Unit) × (Unit) × Unit) × ((List (UInt64)) × (List (UInt64)) × Unit)
def r2mul_x0 : SE → Option Shape := xsMk [(0, r2mul_e0_0)] none
def r2mul_T0 (a10 : Int) (c0 : List (UInt64)) (c1 : List (UInt64)) (c2 : List (UInt64)) (c3 : List (UInt64)) (c4 : List (UInt64)) : OT (Sum r2mul_s0X LEnd) :=
  let z0 : Nat := List.length c4
  let z1 : Bool := decide (4 ≤ z0)
  let z2 : Elem := { w0 := List.getD c4 0 0, w1 := List.getD c4 1 0, w2 := List.getD c4 2 0, w3 := List.getD c4 3 0 }
  let z3 := (wsum z2 z2).fst
  let z4 : List UInt64 := List.set (List.set (List.set (List.set c4 0 z3.w0) 1 z3.w1) 2 z3.w2) 3 z3.w3
  let z5 : Nat := List.length z4
  let z6 : Bool := decide (4 ≤ z5)
  let z7 : Bool := decide (4 ≤ List.length c3)
  let z8 : Elem := { w0 := List.getD z4 0 0, w1 := List.getD z4 1 0, w2 := List.getD z4 2 0, w3 := List.getD z4 3 0 }
  let z9 : Elem := { w0 := List.getD c3 0 0, w1 := List.getD c3 1 0, w2 := List.getD c3 2 0, w3 := List.getD c3 3 0 }
  let z10 : Nat := Elem.nat z9
  let z11 : Int := Int.tdiv a10 (64 : Int)
  let z12 : Bool := true && inR z11
  let z13 : Bool := inB z11 4
  let z14 : Bool := decide (Int.toNat z11 + 0 < List.length c1)
  let z15 := (wdif z8 z9).fst
  let z16 : List UInt64 := List.set (List.set (List.set (List.set z4 0 z15.w0) 1 z15.w1) 2 z15.w2) 3 z15.w3
  let z17 : Nat := List.length z16
  let z18 : Bool := decide (4 ≤ List.length c0)
  let z19 : Elem := { w0 := List.getD c0 0 0, w1 := List.getD c0 1 0, w2 := List.getD c0 2 0, w3 := List.getD c0 3 0 }
  let z20 : Elem := (wsum { w0 := List.getD z16 0 0, w1 := List.getD z16 1 0, w2 := List.getD z16 2 0, w3 := List.getD z16 3 0 } z19).fst
  let z21 : List UInt64 := List.set (List.set (List.set (List.set z16 0 z20.w0) 1 z20.w1) 2 z20.w2) 3 z20.w3
  let z22 : Nat := List.length z21
  let z23 : Bool := decide (4 ≤ z22)
  let z24 : Elem := { w0 := List.getD z21 0 0, w1 := List.getD z21 1 0, w2 := List.getD z21 2 0, w3 := List.getD z21 3 0 }
  let z25 : Bool := inR (a10 - (1 : Int))
  let z26 := (wdif z24 z9).fst
  let z27 := (wsum z8 z19).fst
  let z28 : List UInt64 := List.set (List.set (List.set (List.set z4 0 z27.w0) 1 z27.w1) 2 z27.w2) 3 z27.w3
  let z29 : Nat := List.length z28
  let z30 : Bool := decide (4 ≤ z29)
  let z31 : Elem := { w0 := List.getD z28 0 0, w1 := List.getD z28 1 0, w2 := List.getD z28 2 0, w3 := List.getD z28 3 0 }
  let z32 := (wdif z31 z9).fst
  (.br (decide ((0 : Int) ≤ a10))
  (gd [z1, z1, decide ((4 / 1 : Nat) + 0 ≤ z0), z6, z7] (.br (!Nat.blt (Elem.nat z8) z10)
    (gd [z6, z7, decide ((4 / 1 : Nat) + 0 ≤ z5), z12, z13, z14] (.br (shr64 (List.getD c1 (Int.toNat z11 + 0) (0 : UInt64)) (↑(UInt64.toNat (i2u (Int.tmod a10 (64 : Int)))) : Int) &&& (1 : UInt64) == (1 : UInt64))
      (gd [decide (4 ≤ z17), z18, decide ((4 / 1 : Nat) + 0 ≤ z17), z23, z7] (.br (!Nat.blt (Elem.nat z24) z10)
        (gd [z23, z7, decide ((4 / 1 : Nat) + 0 ≤ z22), z25] (.ok (.inl (((), ((), ((), ((), ((), (a10 - (1 : Int), ())))))), (c0, (c1, (c2, (c3, (List.set (List.set (List.set (List.set z21 0 z26.w0) 1 z26.w1) 2 z26.w2) 3 z26.w3, ())))))))))
        (gd [z25] (.ok (.inl (((), ((), ((), ((), ((), (a10 - (1 : Int), ())))))), (c0, (c1, (c2, (c3, (z21, ())))))))))))
      (gd [z25] (.ok (.inl (((), ((), ((), ((), ((), (a10 - (1 : Int), ())))))), (c0, (c1, (c2, (c3, (z16, ())))))))))))
    (gd [z12, z13, z14] (.br (shr64 (List.getD c1 (Int.toNat z11 + 0) (0 : UInt64)) (↑(UInt64.toNat (i2u (Int.tmod a10 (64 : Int)))) : Int) &&& (1 : UInt64) == (1 : UInt64))
      (gd [z6, z18, decide ((4 / 1 : Nat) + 0 ≤ z5), z30, z7] (.br (!Nat.blt (Elem.nat z31) z10)
        (gd [z30, z7, decide ((4 / 1 : Nat) + 0 ≤ z29), z25] (.ok (.inl (((), ((), ((), ((), ((), (a10 - (1 : Int), ())))))), (c0, (c1, (c2, (c3, (List.set (List.set (List.set (List.set z28 0 z32.w0) 1 z32.w1) 2 z32.w2) 3 z32.w3, ())))))))))
        (gd [z25] (.ok (.inl (((), ((), ((), ((), ((), (a10 - (1 : Int), ())))))), (c0, (c1, (c2, (c3, (z28, ())))))))))))
      (gd [z25] (.ok (.inl (((), ((), ((), ((), ((), (a10 - (1 : Int), ())))))), (c0, (c1, (c2, (c3, (z4, ())))))))))))))
  (.ok (.inr ⟨(.exit 0, r2mul_e0_0), (((), ((), ())), (c2, (c4, ())))⟩)))
def r2mul_U0 (s : r2mul_s0X) : OT (Sum r2mul_s0X LEnd) := r2mul_T0 (s.1.2.2.2.2.2.1) (s.2.1) (s.2.2.1) (s.2.2.2.1) (s.2.2.2.2.1) (s.2.2.2.2.2.1)
theorem r2mul_q0 (s : r2mul_s0X) (Q : Sum r2mul_s0X LEnd → Prop) : wps te E_r2sub lamNil 1000 (loopOf (codeOf Try.f62) 0) (r2mul_s0.inj s) (stepK r2mul_s0 r2mul_x0 (Q : Sum r2mul_s0.T LEnd → Prop)) = (r2mul_U0 s).wpR Q := by kernel_rfl
def r2mul_f0 (g0_0 : r2mul_s0X → r2mul_e0_0X) (s : r2mul_s0X) : OT LEnd := (.ok ⟨(.exit 0, r2mul_e0_0), g0_0 s⟩)
def r2mul_o0 : OutSh := ⟨[.val true .elem], [], false⟩
def r2mul_sel : SV → Option OutSh := fun _ => some r2mul_o0
def r2mul_T (ok0 : r2mul_s0X → Bool) (g0_0 : r2mul_s0X → r2mul_e0_0X) (a0 : Int) (a1 : Elem) (a2 : Elem) : OT r2mul_S.Y :=
  let z0 : Bool := sortOk a0
  let z1 : UInt64 := litM a0
  let z2 : Bool := !z1 == (0 : UInt64)
  let z3 : Nat := pS a0
  let z4 : Elem := ofP z3 a1
  let z5 := z4.w0
  let z6 : Elem := ofP z3 a2
  let z7 := z6.w0
  let z8 : Elem := { w0 := z5 * z7 % z1, w1 := 0, w2 := 0, w3 := 0 }
  let z9 : Elem := { w0 := z5 * (0 : UInt64) % z1, w1 := 0, w2 := 0, w3 := 0 }
  let z10 : Elem := { w0 := 0 * z7 % z1, w1 := 0, w2 := 0, w3 := 0 }
  let z11 : Elem := { w0 := 0 % z1, w1 := 0, w2 := 0, w3 := 0 }
  let z12 : PUnit × PUnit × PUnit × PUnit × PUnit × Int × PUnit := ((), (), (), (), (), (255 : Int), ())
  let z13 : Elem := (numOf (Int.toNat a0)).fst
  let z14 : List UInt64 × List UInt64 × List UInt64 × PUnit := ([(0 : UInt64), (0 : UInt64), (0 : UInt64), (0 : UInt64)], [z13.w0, z13.w1, z13.w2, z13.w3], [(0 : UInt64), (0 : UInt64), (0 : UInt64), (0 : UInt64)], ())
  let z15 : List UInt64 × List UInt64 × List UInt64 × List UInt64 × PUnit := ([z7, z6.w1, z6.w2, z6.w3], z14)
  let z16 : (PUnit × PUnit × PUnit × PUnit × PUnit × Int × PUnit) × List UInt64 × List UInt64 × List UInt64 × List UInt64 × List UInt64 × PUnit := (z12, [z5, z4.w1, z4.w2, z4.w3], z15)
  let z17 := (g0_0 z16).snd
  let z18 := z17.snd.fst
  let z19 := z17.fst
  let z20 : List UInt64 := lay z19 z18 4 (0 : UInt64)
  let z21 : List UInt64 × List UInt64 × List UInt64 × List UInt64 × PUnit := ([(0 : UInt64), (0 : UInt64), (0 : UInt64), (0 : UInt64)], z14)
  let z22 : (PUnit × PUnit × PUnit × PUnit × PUnit × Int × PUnit) × List UInt64 × List UInt64 × List UInt64 × List UInt64 × List UInt64 × PUnit := (z12, [z5, z4.w1, z4.w2, z4.w3], z21)
  let z23 := (g0_0 z22).snd
  let z24 := z23.snd.fst
  let z25 := z23.fst
  let z26 : List UInt64 := lay z25 z24 4 (0 : UInt64)
  let z27 : (PUnit × PUnit × PUnit × PUnit × PUnit × Int × PUnit) × List UInt64 × List UInt64 × List UInt64 × List UInt64 × List UInt64 × PUnit := (z12, [(0 : UInt64), (0 : UInt64), (0 : UInt64), (0 : UInt64)], z15)
  let z28 := (g0_0 z27).snd
  let z29 := z28.snd.fst
  let z30 := z28.fst
  let z31 : List UInt64 := lay z30 z29 4 (0 : UInt64)
  let z32 : (PUnit × PUnit × PUnit × PUnit × PUnit × Int × PUnit) × List UInt64 × List UInt64 × List UInt64 × List UInt64 × List UInt64 × PUnit := (z12, [(0 : UInt64), (0 : UInt64), (0 : UInt64), (0 : UInt64)], z21)
  let z33 := (g0_0 z32).snd
  let z34 := z33.snd.fst
  let z35 := z33.fst
  let z36 : List UInt64 := lay z35 z34 4 (0 : UInt64)
  (.br (a0 == (0 : Int))
  (.br (z0)
    (.br (z0)
      (gd [z2] (.ok ⟨r2mul_o0, ((z8, ()), ())⟩))
      (gd [z2] (.ok ⟨r2mul_o0, ((z9, ()), ())⟩)))
    (.br (z0)
      (gd [z2] (.ok ⟨r2mul_o0, ((z10, ()), ())⟩))
      (gd [z2] (.ok ⟨r2mul_o0, ((z11, ()), ())⟩))))
  (.br (a0 == (1 : Int))
    (.br (z0)
      (.br (z0)
        (gd [z2] (.ok ⟨r2mul_o0, ((z8, ()), ())⟩))
        (gd [z2] (.ok ⟨r2mul_o0, ((z9, ()), ())⟩)))
      (.br (z0)
        (gd [z2] (.ok ⟨r2mul_o0, ((z10, ()), ())⟩))
        (gd [z2] (.ok ⟨r2mul_o0, ((z11, ()), ())⟩))))
    (.br (z0)
      (.br (z0)
        (.br (z0)
          (gd [ok0 z16, decide (4 ≤ List.length z18), decide ((4 / 1 : Nat) + 0 ≤ List.length z19), decide (4 ≤ List.length z20)] (.ok ⟨r2mul_o0, (({ w0 := List.getD z20 0 0, w1 := List.getD z20 1 0, w2 := List.getD z20 2 0, w3 := List.getD z20 3 0 }, ()), ())⟩))
          (gd [ok0 z22, decide (4 ≤ List.length z24), decide ((4 / 1 : Nat) + 0 ≤ List.length z25), decide (4 ≤ List.length z26)] (.ok ⟨r2mul_o0, (({ w0 := List.getD z26 0 0, w1 := List.getD z26 1 0, w2 := List.getD z26 2 0, w3 := List.getD z26 3 0 }, ()), ())⟩)))
        (.br (z0)
          (gd [ok0 z27, decide (4 ≤ List.length z29), decide ((4 / 1 : Nat) + 0 ≤ List.length z30), decide (4 ≤ List.length z31)] (.ok ⟨r2mul_o0, (({ w0 := List.getD z31 0 0, w1 := List.getD z31 1 0, w2 := List.getD z31 2 0, w3 := List.getD z31 3 0 }, ()), ())⟩))
          (gd [ok0 z32, decide (4 ≤ List.length z34), decide ((4 / 1 : Nat) + 0 ≤ List.length z35), decide (4 ≤ List.length z36)] (.ok ⟨r2mul_o0, (({ w0 := List.getD z36 0 0, w1 := List.getD z36 1 0, w2 := List.getD z36 2 0, w3 := List.getD z36 3 0 }, ()), ())⟩))))
      (.ok ⟨r2mul_o0, (({ w0 := 0, w1 := 0, w2 := 0, w3 := 0 }, ()), ())⟩))))
theorem r2mul_q (ok0 : r2mul_s0X → Bool) (g0_0 : r2mul_s0X → r2mul_e0_0X) (x : r2mulX) (Q : r2mul_S.Y → Prop) : wpf te E_r2sub (lamCons 0 (loopF r2mul_s0 0 ok0 (r2mul_f0 g0_0)) lamNil) 1000 Try.f62 (r2mul_S.inp.inj x).tm (r2mul_S.inp.inj x).hp (fnK r2mul_S r2mul_sel Q) (fun _ _ => False) = (r2mul_T ok0 g0_0 (x.1.1) (x.1.2.1) (x.1.2.2.1)).wpR Q := by kernel_rfl
theorem r2mul_main (ok0 : r2mul_s0X → Bool) (g0_0 : r2mul_s0X → r2mul_e0_0X) (h0 : ∀ s : r2mul_s0X, ok0 s = true → ∃ m e, loopRun (r2mul_U0) m s = some e ∧ (r2mul_f0 g0_0 s).run = some e) (pre : r2mulX → Bool) (F : r2mulX → OT r2mul_S.Y) (hF : ∀ (x : r2mulX) oy, pre x = true → (F x).run = some oy → (r2mul_T ok0 g0_0 (x.1.1) (x.1.2.1) (x.1.2.2.1)).run = some oy) : SummOk Try.prog 62 (r2mul_S.summ pre F) :=
  fn_tree te_ok E_r2sub_ok E_r2sub_any (f := 62) (fn := Try.f62) (c := codeOf Try.f62) (by kernel_rfl) (by kernel_rfl) (by kernel_rfl) (S := r2mul_S) (k := 0) (by kernel_rfl) (fun R hR => (lamOk_cons (c := (codeOf Try.f62)) (by kernel_rfl) (id := 0) (by kernel_rfl) (loop_ok te_ok E_r2sub_ok E_r2sub_any (sh := r2mul_s0) hR (xs := r2mul_x0) (xsMk_small (by kernel_rfl) (by kernel_rfl) hR) xsMk_pan lamOk_nil (n := 1000) (T := r2mul_U0) (fun s Q => r2mul_q0 s Q) (ok := ok0) (f := r2mul_f0 g0_0) h0) lamOk_nil)) (n := 1000) (sel := r2mul_sel) (fun v o h => by cases h; rfl) (pre := pre) (F := F) (T := fun x => r2mul_T ok0 g0_0 (x.1.1) (x.1.2.1) (x.1.2.2.1)) (fun x Q => r2mul_q ok0 g0_0 x Q) hF
theorem mul_little {s : Int} (h : s = 0 ∨ s = 1) (a b : Elem) : (⟨(ofP (pS s) a).w0 * (ofP (pS s) b).w0 % litM s, 0, 0, 0⟩ : Elem) = mulP (pS s) a b := by
  obtain ⟨hp, h0, h1, _⟩ := little_lt h
  rw [hp]
  generalize litM s = m at *
  have ha := Nat.mod_lt a.nat h0
  have hb := Nat.mod_lt b.nat h0
  have hc := Nat.mod_lt (a.nat * b.nat) h0
  have hab : a.nat % m.toNat * (b.nat % m.toNat) < 18446744073709551616 := by
    have : a.nat % m.toNat * (b.nat % m.toNat) ≤ 16521217 * 16521217 := Nat.mul_le_mul (by omega) (by omega)
    omega
  unfold mulP
  rw [ofN_small (n := a.nat * b.nat % m.toNat) (by omega)]
  have e : (ofP m.toNat a).w0 * (ofP m.toNat b).w0 % m = UInt64.ofNat (a.nat * b.nat % m.toNat) := by
    show UInt64.ofNat (a.nat % m.toNat) * UInt64.ofNat (b.nat % m.toNat) % m = _
    rw [← UInt64.toNat_inj, UInt64.toNat_mod, UInt64.toNat_mul, UInt64.toNat_ofNat', UInt64.toNat_ofNat', UInt64.toNat_ofNat', Nat.mod_eq_of_lt (a := a.nat % m.toNat) (by omega), Nat.mod_eq_of_lt (a := b.nat % m.toNat) (by omega),
      Nat.mod_eq_of_lt (a := a.nat % m.toNat * (b.nat % m.toNat)) (by omega), Nat.mod_eq_of_lt (a := a.nat * b.nat % m.toNat) (by omega), ← Nat.mul_mod]
  rw [e]
def daStep (p a b : Nat) (n o : Nat) : Nat := cond (bitN b (255 - n)) ((2 * o % p + a) % p) (2 * o % p)
theorem da_upto (p a b : Nat) (hb : b < 2 ^ 256) : ∀ n, n ≤ 256 → upto (daStep p a b) 0 n = a * (b / 2 ^ (256 - n)) % p
  | 0, _ => by
    show 0 = _
    rw [Nat.div_eq_of_lt (by exact hb), Nat.mul_zero, Nat.zero_mod]
  | n + 1, hn => by
    show daStep p a b n (upto (daStep p a b) 0 n) = _
    rw [da_upto p a b hb n (by omega)]
    have e1 : 256 - n = (255 - n) + 1 := by omega
    have e2 : 256 - (n + 1) = 255 - n := by omega
    rw [e1, e2, Nat.pow_succ, ← Nat.div_div_eq_div_mul]
    unfold daStep bitN
    generalize b / 2 ^ (255 - n) = q
    have hd : 2 * (a * (q / 2) % p) % p = a * (2 * (q / 2)) % p := by
      rw [Nat.mul_mod, Nat.mod_mod, ← Nat.mul_mod, Nat.mul_left_comm]
    cases hq : Nat.beq (q % 2) 1
    · simp only [cond_false]
      have : ¬ q % 2 = 1 := fun e => by rw [e] at hq; cases hq
      rw [hd, show 2 * (q / 2) = q by omega]
    · have hq := Nat.eq_of_beq_eq_true hq
      simp only [cond_true]
      rw [hd, Nat.mod_add_mod]
      have e3 : a * (2 * (q / 2)) + a = a * q := by
        rw [← Nat.mul_succ, show (2 * (q / 2)).succ = q by omega]
      rw [e3]
theorem red_f {z M : Elem} (h : Nat.blt z.nat M.nat = true) : z = ofN (z.nat % M.nat) := by
  rw [Nat.mod_eq_of_lt (blt_of h), ofN_self]
theorem not_blt {n m : Nat} (h : Nat.blt n m = false) : m ≤ n := by
  rcases Nat.lt_or_ge n m with h' | h'
  · have : Nat.blt n m = true := Nat.ble_eq_true_of_le h'
    rw [this] at h; cases h
  · exact h'
theorem red_t {z M : Elem} (h : Nat.blt z.nat M.nat = false) (h2 : z.nat < 2 * M.nat) : (wdif z M).1 = ofN (z.nat % M.nat) := by
  have hle := not_blt h
  have hz := nat_lt z
  apply nat_inj
  rw [wdif_nat hle, Nat.mod_eq_sub_mod hle, Nat.mod_eq_of_lt (by omega), nat_ofN (by omega)]
theorem sum_nat {a b : Elem} (h : a.nat + b.nat < 115792089237316195423570985008687907853269984665640564039457584007913129639936) : (wsum a b).1.nat = a.nat + b.nat := nat_ofN h
theorem i2u_small {k : Nat} (hk : k < 64) : (((i2u (k : Int)).toNat : Nat) : Int) = (k : Int) := by
  unfold i2u
  rw [UInt64.toNat_ofNat']
  omega
theorem da_bit {b : Elem} {n : Nat} (hn : n < 256) : (shr64 (List.getD (lst b) (Int.toNat (Int.tdiv (255 - (n : Int)) 64) + 0) 0) (((i2u (Int.tmod (255 - (n : Int)) 64)).toNat : Nat) : Int) &&& 1 == 1) = bitN b.nat (255 - n) := by
  have t0 : (255 : Int) - (n : Int) = ((255 - n : Nat) : Int) := by omega
  rw [t0]
  generalize hk : 255 - n = k
  have hk2 : k < 256 := by omega
  have t1 : Int.tdiv (k : Int) 64 = ((k / 64 : Nat) : Int) := by rw [Int.tdiv_eq_ediv_of_nonneg (by omega)]; omega
  have t2 : Int.tmod (k : Int) 64 = ((k % 64 : Nat) : Int) := by rw [Int.tmod_eq_emod_of_nonneg (by omega)]; omega
  rw [t1, t2, i2u_small (by omega), bit_one, shr64_nat _ _ (by omega), Int.toNat_natCast, Nat.add_zero]
  have := bit_word (a := b) (q := k / 64) (r := k % 64) (by omega) (by omega)
  rw [show 64 * (k / 64) + k % 64 = k by omega] at this
  unfold bitN
  rw [← this]
theorem set4 (e f : Elem) : List.set (List.set (List.set (List.set (lst e) 0 f.w0) 1 f.w1) 2 f.w2) 3 f.w3 = lst f := rfl
theorem get4 (e : Elem) : (⟨List.getD (lst e) 0 0, List.getD (lst e) 1 0, List.getD (lst e) 2 0, List.getD (lst e) 3 0⟩ : Elem) = e := rfl
def da_st (A B : Elem) (c2 : List UInt64) (M : Elem) (n o : Nat) : r2mul_s0X := (((), (), (), (), (), 255 - (n : Int), ()), (lst A, lst B, c2, lst M, lst (ofN o), ()))
theorem da_step {A B M : Elem} {c2 : List UInt64} {n o : Nat} (hn : n < 256) (hA : A.nat < M.nat) (ho : o < M.nat) (hM : 2 * M.nat ≤ 115792089237316195423570985008687907853269984665640564039457584007913129639936) :
    (r2mul_U0 (da_st A B c2 M n o)).run = some (.inl (da_st A B c2 M (n + 1) (daStep M.nat A.nat B.nat n o))) := by
  have e2 : (255 : Int) - (n : Int) - 1 = 255 - ((n + 1 : Nat) : Int) := by omega
  have hO : (ofN o).nat = o := nat_ofN (by omega)
  have hz : (wsum (ofN o) (ofN o)).1.nat = 2 * o := by rw [sum_nat (by omega), hO]; omega
  have hbit := da_bit (b := B) hn
  have t0 : (255 : Int) - (n : Int) = ((255 - n : Nat) : Int) := by omega
  have t1 : Int.tdiv (255 - (n : Int)) 64 = (((255 - n) / 64 : Nat) : Int) := by rw [t0, Int.tdiv_eq_ediv_of_nonneg (by omega)]; omega
  have gb : ∀ z : OT (Sum r2mul_s0X LEnd), (gd [true && inR (Int.tdiv (255 - (n : Int)) 64), inB (Int.tdiv (255 - (n : Int)) 64) 4, decide (Int.toNat (Int.tdiv (255 - (n : Int)) 64) + 0 < (lst B).length)] z).run = z.run := fun z => gd_run (by
    simp only [t1, Int.toNat_natCast, Nat.add_zero, lst_length, List.all_cons, List.all_nil, Bool.and_true, Bool.true_and, Bool.and_eq_true]
    exact ⟨inR_of (by omega), inB_of (by omega), decide_eq_true (by omega)⟩)
  have gb2 : ∀ z : OT (Sum r2mul_s0X LEnd), (gd [true, true, true, true && inR (Int.tdiv (255 - (n : Int)) 64), inB (Int.tdiv (255 - (n : Int)) 64) 4, decide (Int.toNat (Int.tdiv (255 - (n : Int)) 64) + 0 < (lst B).length)] z).run = z.run := fun z => gd_run (by
    simp only [t1, Int.toNat_natCast, Nat.add_zero, lst_length, List.all_cons, List.all_nil, Bool.and_true, Bool.true_and, Bool.and_eq_true]
    exact ⟨inR_of (by omega), inB_of (by omega), decide_eq_true (by omega)⟩)
  have hi : inR ((255 : Int) - (n : Int) - 1) = true := inR_of (by omega)
  have gi : ∀ z : OT (Sum r2mul_s0X LEnd), (gd [inR ((255 : Int) - (n : Int) - 1)] z).run = z.run := fun z => gd_run (by simp only [hi, List.all_cons, List.all_nil, Bool.and_true])
  have gi2 : ∀ z : OT (Sum r2mul_s0X LEnd), (gd [true, true, true, inR ((255 : Int) - (n : Int) - 1)] z).run = z.run := fun z => gd_run (by simp only [hi, List.all_cons, List.all_nil, Bool.and_true])
  -- behind the doubling
  have tail : ∀ D : Elem, D = ofN (2 * o % M.nat) →
      (OT.br (shr64 (List.getD (lst B) (Int.toNat (Int.tdiv (255 - (n : Int)) 64) + 0) 0) (((i2u (Int.tmod (255 - (n : Int)) 64)).toNat : Nat) : Int) &&& 1 == 1)
        (gd [true, true, true, true, true] (OT.br (!Nat.blt (wsum D A).1.nat M.nat)
          (gd [true, true, true, inR ((255 : Int) - (n : Int) - 1)] (.ok (.inl (((), (), (), (), (), (255 : Int) - (n : Int) - 1, ()), (lst A, lst B, c2, lst M, lst (wdif (wsum D A).1 M).1, ())))))
          (gd [inR ((255 : Int) - (n : Int) - 1)] (.ok (.inl (((), (), (), (), (), (255 : Int) - (n : Int) - 1, ()), (lst A, lst B, c2, lst M, lst (wsum D A).1, ())))))))
        (gd [inR ((255 : Int) - (n : Int) - 1)] (.ok (.inl (((), (), (), (), (), (255 : Int) - (n : Int) - 1, ()), (lst A, lst B, c2, lst M, lst D, ()))))) : OT (Sum r2mul_s0X LEnd)).run
      = some (.inl (da_st A B c2 M (n + 1) (daStep M.nat A.nat B.nat n o))) := fun D hD => by
    rw [hbit, e2]
    rw [e2] at gi gi2
    have hlt := Nat.mod_lt (2 * o) (show 0 < M.nat by omega)
    have hDn : D.nat = 2 * o % M.nat := by rw [hD]; exact nat_ofN (by omega)
    have hw : (wsum D A).1.nat = 2 * o % M.nat + A.nat := by rw [sum_nat (by omega), hDn]
    unfold daStep
    rcases (Bool.eq_false_or_eq_true (bitN B.nat (255 - n))).symm with hb | hb
    · rw [hb, hD]
      exact (OT.run_f rfl).trans (gi _)
    · rw [hb]
      refine (OT.run_t rfl).trans ((gd_run rfl).trans ?_)
      rcases (Bool.eq_false_or_eq_true (Nat.blt (wsum D A).1.nat M.nat)).symm with hc | hc
      · have er := red_t hc (by omega)
        rw [hw] at er
        refine (OT.run_t (by rw [hc]; rfl)).trans ((gi2 _).trans ?_)
        rw [er]
        rfl
      · have er := red_f hc
        rw [hw] at er
        refine (OT.run_f (by rw [hc]; rfl)).trans ((gi _).trans ?_)
        rw [er]
        rfl
  show (r2mul_T0 (255 - (n : Int)) (lst A) (lst B) c2 (lst M) (lst (ofN o))).run = _
  unfold r2mul_T0
  simp only [set4, get4, lst_length]
  refine (OT.run_t (decide_eq_true (by omega))).trans ((gd_run rfl).trans ?_)
  rcases (Bool.eq_false_or_eq_true (Nat.blt (wsum (ofN o) (ofN o)).1.nat M.nat)).symm with hc | hc
  · have er := red_t hc (by omega)
    rw [hz] at er
    exact (OT.run_t (b := !Nat.blt (wsum (ofN o) (ofN o)).1.nat M.nat) (by rw [hc]; rfl)).trans ((gb2 _).trans (tail _ er))
  · have er := red_f hc
    rw [hz] at er
    exact (OT.run_f (b := !Nat.blt (wsum (ofN o) (ofN o)).1.nat M.nat) (by rw [hc]; rfl)).trans ((gb _).trans (tail _ er))
def r2mul_ok0 (s : r2mul_s0X) : Bool := decide (s.1.2.2.2.2.2.1 = 255 ∧ s.2.1.length = 4 ∧ s.2.2.1.length = 4 ∧ s.2.2.2.2.1.length = 4 ∧ s.2.2.2.2.2.1 = [0, 0, 0, 0] ∧ (elemOf s.2.1).nat < (elemOf s.2.2.2.2.1).nat ∧ 2 * (elemOf s.2.2.2.2.1).nat ≤ 115792089237316195423570985008687907853269984665640564039457584007913129639936)
def r2mul_g0 (s : r2mul_s0X) : r2mul_e0_0X := (((), (), ()), (s.2.2.2.1, lst (ofN ((elemOf s.2.1).nat * (elemOf s.2.2.1).nat % (elemOf s.2.2.2.2.1).nat)), ()))
theorem r2mul_h0 : ∀ s : r2mul_s0X, r2mul_ok0 s = true → ∃ m e, loopRun r2mul_U0 m s = some e ∧ (r2mul_f0 r2mul_g0 s).run = some e := by
  rintro ⟨⟨⟨⟩, ⟨⟩, ⟨⟩, ⟨⟩, ⟨⟩, i, ⟨⟩⟩, ⟨l0, l1, c2, l3, l4, ⟨⟩⟩⟩ h
  have h' := of_decide_eq_true h
  dsimp only at h'
  obtain ⟨rfl, h0, h1, h3, rfl, hA, hM⟩ := h'
  obtain ⟨A, rfl⟩ : ∃ a, l0 = lst a := ⟨elemOf l0, (lst_elemOf h0).symm⟩
  obtain ⟨B, rfl⟩ : ∃ a, l1 = lst a := ⟨elemOf l1, (lst_elemOf h1).symm⟩
  obtain ⟨M, rfl⟩ : ∃ a, l3 = lst a := ⟨elemOf l3, (lst_elemOf h3).symm⟩
  have hA : A.nat < M.nat := hA
  have := (loop_upto (T := r2mul_U0) (da_st A B c2 M) (daStep M.nat A.nat B.nat)
    (fun o => (⟨(.exit 0, r2mul_e0_0), (((), (), ()), (c2, lst (ofN o), ()))⟩ : LEnd)) 256 0 (fun _ o => o < M.nat) (by omega) (fun n o hn ho => ⟨da_step hn hA ho hM, ?_⟩) (fun o ho => ?_)).1
  · rw [da_upto M.nat A.nat B.nat (nat_lt B) 256 (by omega), Nat.sub_self, Nat.pow_zero, Nat.div_one] at this
    obtain ⟨m, hm⟩ := this
    exact ⟨m, _, hm, rfl⟩
  · unfold daStep
    cases bitN B.nat (255 - n)
    · exact Nat.mod_lt _ (by omega)
    · exact Nat.mod_lt _ (by omega)
  · exact OT.run_f (decide_eq_false (by dsimp only [da_st]; omega))
def r2mul_pre (x : r2mulX) : Bool := sortOk x.1.1
def r2mul_F (x : r2mulX) : OT r2mul_S.Y := .ok ⟨r2mul_o0, ((mulP (pS x.1.1) x.1.2.1 x.1.2.2.1, ()), ())⟩
theorem mul_great {s : Int} (hs : sortOk s = true) (a b : Elem) : ofN ((ofP (pS s) a).nat * (ofP (pS s) b).nat % pS s) = mulP (pS s) a b := by
  have hp := pS_pos hs
  unfold ofP mulP
  rw [rem_nat hp, rem_nat hp, ← Nat.mul_mod]
theorem r2mul_ok : SummOk Try.prog 62 (r2mul_S.summ r2mul_pre r2mul_F) := r2mul_main r2mul_ok0 r2mul_g0 r2mul_h0 _ _ fun x oy hp ho => by
  rw [← ho]
  clear ho
  obtain ⟨⟨s, a, b, ⟨⟩⟩, ⟨⟩⟩ := x
  have hs : sortOk s = true := hp
  show _ = some (⟨r2mul_o0, ((mulP (pS s) a b, ()), ())⟩ : r2mul_S.Y)
  have little : (s = 0 ∨ s = 1) → (gd [!(litM s == 0)] (.ok ⟨r2mul_o0, ((⟨(ofP (pS s) a).w0 * (ofP (pS s) b).w0 % litM s, 0, 0, 0⟩, ()), ())⟩) : OT r2mul_S.Y).run = some (⟨r2mul_o0, ((mulP (pS s) a b, ()), ())⟩ : r2mul_S.Y) := fun h => by
    obtain ⟨_, _, _, hz⟩ := little_lt h
    rw [mul_little h]
    exact gd_run (by simp only [hz, List.all_cons, List.all_nil, Bool.and_true])
  by_cases h0 : s = 0
  · exact (OT.run_t (by simpa using h0)).trans ((OT.run_t hs).trans ((OT.run_t hs).trans (little (.inl h0))))
  · refine (OT.run_f (by simpa using h0)).trans ?_
    by_cases h1 : s = 1
    · exact (OT.run_t (by simpa using h1)).trans ((OT.run_t hs).trans ((OT.run_t hs).trans (little (.inr h1))))
    · refine (OT.run_f (by simpa using h1)).trans ((OT.run_t hs).trans ((OT.run_t hs).trans ((OT.run_t hs).trans ?_)))
      have hpp := pS_pos hs
      have hA : (ofP (pS s) a).nat < pS s := by
        show (ofN _).nat < _
        rw [rem_nat hpp]
        exact Nat.mod_lt _ hpp.1
      refine (gd_run ?_).trans ?_
      · simp only [List.all_cons, List.all_nil, Bool.and_true, Bool.and_eq_true]
        exact ⟨decide_eq_true ⟨rfl, rfl, rfl, rfl, rfl, hA, (by show 2 * pS s ≤ _; omega)⟩, rfl, rfl, rfl⟩
      · rw [← mul_great hs]
        show some (⟨r2mul_o0, ((elemOf (lay [0, 0, 0, 0] (lst (ofN ((ofP (pS s) a).nat * (ofP (pS s) b).nat % pS s))) 4 0), ()), ())⟩ : r2mul_S.Y) = _
        rw [lay4 _ _ rfl rfl]
        rfl
def r2mul_summ : Summ := (r2mul_S.summ r2mul_pre r2mul_F)
theorem r2mul_known : SummOk Try.prog 62 r2mul_summ := r2mul_ok
theorem r2mul_smono : MonoOk r2mul_summ := fn_mono
def E_r2mul : Env := envCons 62 r2mul_summ E_r2sub
theorem E_r2mul_ok : EnvOk Try.prog E_r2mul := envOk_cons r2mul_known E_r2sub_ok
theorem E_r2mul_mono : EnvMono E_r2mul := envMono_cons r2mul_smono E_r2sub_mono
theorem E_r2mul_any : AnyOk Try.prog te E_r2mul := any_ok follows te_ok E_r2mul_ok E_r2mul_mono
def r2exp_S : FnSpec := ⟨[.val false .int, .val true .elem, .val true .elem], [], true, 0, false⟩
abbrev r2expX : Type := ((Int) × (Elem) × (Elem) × Unit) × (Unit)
def r2exp_s0 : Shape := ⟨53, [(0, .val false .int), (4, .ptr 0 0 0), (5, .ptr 1 0 0), (6, .ptr 2 0 0), (7, .ptr 3 0 0), (8, .val false .int)], [(0, .row .u64), (1, .row .u64), (2, .row .u64), (3, .row .u64)], 0, true⟩
abbrev r2exp_s0X : Type := ((Int) × (Unit) × (Unit) × (Unit) × (Unit) × (Int) × Unit) × ((List (UInt64)) × (List (UInt64)) × (List (UInt64)) × (List (UInt64)) × Unit)
def r2exp_e0_0 : Shape := ⟨53, [(0, .val false .int), (4, .ptr 0 0 0), (5, .ptr 1 0 0), (6, .ptr 2 0 0), (7, .ptr 3 0 0), (8, .val false .int)], [(0, .row .u64), (1, .row .u64), (2, .row .u64), (3, .row .u64)], 0, true⟩
abbrev r2exp_e0_0X : Type := ((Int) × (Unit) × (Unit) × (Unit) × (Unit) × (Int) × Unit) × ((List (UInt64)) × (List (UInt64)) × (List (UInt64)) × (List (UInt64)) × Unit)
def r2exp_x0 : SE → Option Shape := xsMk [(0, r2exp_e0_0)] none
def r2exp_T0 (a0 : Int) (a8 : Int) (c0 : List (UInt64)) (c1 : List (UInt64)) (c2 : List (UInt64)) (c3 : List (UInt64)) : OT (Sum r2exp_s0X LEnd) :=
  let z0 : Int := Int.tdiv a8 (64 : Int)
  (.br (decide ((0 : Int) ≤ a8))
  (gd [true && inR z0, inB z0 4, decide (Int.toNat z0 + 0 < List.length c1)] (.br (shr64 (List.getD c1 (Int.toNat z0 + 0) (0 : UInt64)) (↑(UInt64.toNat (i2u (Int.tmod a8 (64 : Int)))) : Int) &&& (1 : UInt64) == (0 : UInt64))
    (gd [inR (a8 - (1 : Int))] (.ok (.inl ((a0, ((), ((), ((), ((), (a8 - (1 : Int), ())))))), (c0, (c1, (c2, (c3, ()))))))))
    (.ok (.inr ⟨(.exit 0, r2exp_e0_0), ((a0, ((), ((), ((), ((), (a8, ())))))), (c0, (c1, (c2, (c3, ())))))⟩))))
  (.ok (.inr ⟨(.exit 0, r2exp_e0_0), ((a0, ((), ((), ((), ((), (a8, ())))))), (c0, (c1, (c2, (c3, ())))))⟩)))
def r2exp_U0 (s : r2exp_s0X) : OT (Sum r2exp_s0X LEnd) := r2exp_T0 (s.1.1) (s.1.2.2.2.2.2.1) (s.2.1) (s.2.2.1) (s.2.2.2.1) (s.2.2.2.2.1)
theorem r2exp_q0 (s : r2exp_s0X) (Q : Sum r2exp_s0X LEnd → Prop) : wps te E_r2mul lamNil 1000 (loopOf (codeOf Try.f104) 0) (r2exp_s0.inj s) (stepK r2exp_s0 r2exp_x0 (Q : Sum r2exp_s0.T LEnd → Prop)) = (r2exp_U0 s).wpR Q := by kernel_rfl
def r2exp_f0 (g0_0 : r2exp_s0X → r2exp_e0_0X) (s : r2exp_s0X) : OT LEnd := (.ok ⟨(.exit 0, r2exp_e0_0), g0_0 s⟩)
def r2exp_s2 : Shape := ⟨53, [(0, .val false .int), (4, .ptr 0 0 0), (5, .ptr 1 0 0), (6, .ptr 2 0 0), (7, .ptr 3 0 0), (9, .val false .int)], [(0, .row .u64), (1, .row .u64), (2, .row .u64), (3, .row .u64)], 0, true⟩
abbrev r2exp_s2X : Type := ((Int) × (Unit) × (Unit) × (Unit) × (Unit) × (Int) × Unit) × ((List (UInt64)) × (List (UInt64)) × (List (UInt64)) × (List (UInt64)) × Unit)
def r2exp_e2_2 : Shape := ⟨53, [(6, .ptr 0 0 0), (7, .ptr 1 0 0)], [(0, .row .u64), (1, .row .u64)], 0, true⟩
abbrev r2exp_e2_2X : Type := ((Unit) × (Unit) × Unit) × ((List (UInt64)) × (List (UInt64)) × Unit)
def r2exp_x2 : SE → Option Shape := xsMk [(2, r2exp_e2_2)] none
def r2exp_T2 (a0 : Int) (a9 : Int) (c0 : List (UInt64)) (c1 : List (UInt64)) (c2 : List (UInt64)) (c3 : List (UInt64)) : OT (Sum r2exp_s2X LEnd) :=
  let z0 : Nat := List.length c3
  let z1 : Bool := decide (4 ≤ z0)
  let z2 : Elem := { w0 := List.getD c3 0 0, w1 := List.getD c3 1 0, w2 := List.getD c3 2 0, w3 := List.getD c3 3 0 }
  let z3 : Int := Int.tdiv a9 (64 : Int)
  let z4 : Nat := pS a0
  let z5 : Elem := mulP z4 z2 z2
  let z6 : List UInt64 := List.set (List.set (List.set (List.set c3 0 z5.w0) 1 z5.w1) 2 z5.w2) 3 z5.w3
  let z7 : Nat := List.length z6
  let z8 : Elem := { w0 := List.getD z6 0 0, w1 := List.getD z6 1 0, w2 := List.getD z6 2 0, w3 := List.getD z6 3 0 }
  let z9 : Elem := { w0 := List.getD c0 0 0, w1 := List.getD c0 1 0, w2 := List.getD c0 2 0, w3 := List.getD c0 3 0 }
  let z10 : Bool := inR (a9 - (1 : Int))
  let z11 : Elem := mulP z4 z8 z9
  (.br (decide ((0 : Int) ≤ a9))
  (gd [z1, z1, r2mul_pre ((a0, z2, z2, ()), ()), decide ((4 / 1 : Nat) + 0 ≤ z0), true && inR z3, inB z3 4, decide (Int.toNat z3 + 0 < List.length c1)] (.br (shr64 (List.getD c1 (Int.toNat z3 + 0) (0 : UInt64)) (↑(UInt64.toNat (i2u (Int.tmod a9 (64 : Int)))) : Int) &&& (1 : UInt64) == (1 : UInt64))
    (gd [decide (4 ≤ z7), decide (4 ≤ List.length c0), r2mul_pre ((a0, z8, z9, ()), ()), decide ((4 / 1 : Nat) + 0 ≤ z7), z10] (.ok (.inl ((a0, ((), ((), ((), ((), (a9 - (1 : Int), ())))))), (c0, (c1, (c2, (List.set (List.set (List.set (List.set z6 0 z11.w0) 1 z11.w1) 2 z11.w2) 3 z11.w3, ()))))))))
    (gd [z10] (.ok (.inl ((a0, ((), ((), ((), ((), (a9 - (1 : Int), ())))))), (c0, (c1, (c2, (z6, ()))))))))))
  (.ok (.inr ⟨(.exit 2, r2exp_e2_2), (((), ((), ())), (c2, (c3, ())))⟩)))
def r2exp_U2 (s : r2exp_s2X) : OT (Sum r2exp_s2X LEnd) := r2exp_T2 (s.1.1) (s.1.2.2.2.2.2.1) (s.2.1) (s.2.2.1) (s.2.2.2.1) (s.2.2.2.2.1)
theorem r2exp_q2 (s : r2exp_s2X) (Q : Sum r2exp_s2X LEnd → Prop) : wps te E_r2mul lamNil 1000 (loopOf (codeOf Try.f104) 2) (r2exp_s2.inj s) (stepK r2exp_s2 r2exp_x2 (Q : Sum r2exp_s2.T LEnd → Prop)) = (r2exp_U2 s).wpR Q := by kernel_rfl
def r2exp_f2 (g2_2 : r2exp_s2X → r2exp_e2_2X) (s : r2exp_s2X) : OT LEnd := (.ok ⟨(.exit 2, r2exp_e2_2), g2_2 s⟩)
def r2exp_o0 : OutSh := ⟨[.val true .elem], [], false⟩
def r2exp_sel : SV → Option OutSh := fun _ => some r2exp_o0
def r2exp_T (ok0 : r2exp_s0X → Bool) (g0_0 : r2exp_s0X → r2exp_e0_0X) (ok2 : r2exp_s2X → Bool) (g2_2 : r2exp_s2X → r2exp_e2_2X) (a0 : Int) (a1 : Elem) (a2 : Elem) : OT r2exp_S.Y :=
  let z0 : Int × PUnit × PUnit × PUnit × PUnit × Int × PUnit := (a0, (), (), (), (), (255 : Int), ())
  let z1 : Elem := ofP (pS a0) { w0 := 1, w1 := 0, w2 := 0, w3 := 0 }
  let z2 : (Int × PUnit × PUnit × PUnit × PUnit × Int × PUnit) × List UInt64 × List UInt64 × List UInt64 × List UInt64 × PUnit := (z0, [a1.w0, a1.w1, a1.w2, a1.w3], [a2.w0, a2.w1, a2.w2, a2.w3], [(0 : UInt64), (0 : UInt64), (0 : UInt64), (0 : UInt64)], [z1.w0, z1.w1, z1.w2, z1.w3], ())
  let z3 : (Int × PUnit × PUnit × PUnit × PUnit × Int × PUnit) × List UInt64 × List UInt64 × List UInt64 × List UInt64 × PUnit := g0_0 z2
  let z4 := z3.fst
  let z5 := z3.snd
  let z6 := z5.snd
  let z7 := z6.snd
  let z8 : (Int × PUnit × PUnit × PUnit × PUnit × Int × PUnit) × List UInt64 × List UInt64 × List UInt64 × List UInt64 × PUnit := ((z4.fst, (), (), (), (), z4.snd.snd.snd.snd.snd.fst, ()), z5.fst, z6.fst, z7.fst, z7.snd.fst, ())
  let z9 := (g2_2 z8).snd
  let z10 := z9.snd.fst
  let z11 := z9.fst
  let z12 : List UInt64 := lay z11 z10 4 (0 : UInt64)
  let z13 : (Int × PUnit × PUnit × PUnit × PUnit × Int × PUnit) × List UInt64 × List UInt64 × List UInt64 × List UInt64 × PUnit := (z0, [a1.w0, a1.w1, a1.w2, a1.w3], [a2.w0, a2.w1, a2.w2, a2.w3], [(0 : UInt64), (0 : UInt64), (0 : UInt64), (0 : UInt64)], [(0 : UInt64), (0 : UInt64), (0 : UInt64), (0 : UInt64)], ())
  let z14 : (Int × PUnit × PUnit × PUnit × PUnit × Int × PUnit) × List UInt64 × List UInt64 × List UInt64 × List UInt64 × PUnit := g0_0 z13
  let z15 := z14.fst
  let z16 := z14.snd
  let z17 := z16.snd
  let z18 := z17.snd
  let z19 : (Int × PUnit × PUnit × PUnit × PUnit × Int × PUnit) × List UInt64 × List UInt64 × List UInt64 × List UInt64 × PUnit := ((z15.fst, (), (), (), (), z15.snd.snd.snd.snd.snd.fst, ()), z16.fst, z17.fst, z18.fst, z18.snd.fst, ())
  let z20 := (g2_2 z19).snd
  let z21 := z20.snd.fst
  let z22 := z20.fst
  let z23 : List UInt64 := lay z22 z21 4 (0 : UInt64)
  (.br (sortOk a0)
  (gd [ok0 z2, ok2 z8, decide (4 ≤ List.length z10), decide ((4 / 1 : Nat) + 0 ≤ List.length z11), decide (4 ≤ List.length z12)] (.ok ⟨r2exp_o0, (({ w0 := List.getD z12 0 0, w1 := List.getD z12 1 0, w2 := List.getD z12 2 0, w3 := List.getD z12 3 0 }, ()), ())⟩))
  (gd [ok0 z13, ok2 z19, decide (4 ≤ List.length z21), decide ((4 / 1 : Nat) + 0 ≤ List.length z22), decide (4 ≤ List.length z23)] (.ok ⟨r2exp_o0, (({ w0 := List.getD z23 0 0, w1 := List.getD z23 1 0, w2 := List.getD z23 2 0, w3 := List.getD z23 3 0 }, ()), ())⟩)))
theorem r2exp_q (ok0 : r2exp_s0X → Bool) (g0_0 : r2exp_s0X → r2exp_e0_0X) (ok2 : r2exp_s2X → Bool) (g2_2 : r2exp_s2X → r2exp_e2_2X) (x : r2expX) (Q : r2exp_S.Y → Prop) : wpf te E_r2mul (lamCons 2 (loopF r2exp_s2 2 ok2 (r2exp_f2 g2_2)) (lamCons 0 (loopF r2exp_s0 0 ok0 (r2exp_f0 g0_0)) lamNil)) 1000 Try.f104 (r2exp_S.inp.inj x).tm (r2exp_S.inp.inj x).hp (fnK r2exp_S r2exp_sel Q) (fun _ _ => False) = (r2exp_T ok0 g0_0 ok2 g2_2 (x.1.1) (x.1.2.1) (x.1.2.2.1)).wpR Q := by kernel_rfl
theorem r2exp_main (ok0 : r2exp_s0X → Bool) (g0_0 : r2exp_s0X → r2exp_e0_0X) (ok2 : r2exp_s2X → Bool) (g2_2 : r2exp_s2X → r2exp_e2_2X) (h0 : ∀ s : r2exp_s0X, ok0 s = true → ∃ m e, loopRun (r2exp_U0) m s = some e ∧ (r2exp_f0 g0_0 s).run = some e) (h2 : ∀ s : r2exp_s2X, ok2 s = true → ∃ m e, loopRun (r2exp_U2) m s = some e ∧ (r2exp_f2 g2_2 s).run = some e) (pre : r2expX → Bool) (F : r2expX → OT r2exp_S.Y) (hF : ∀ (x : r2expX) oy, pre x = true → (F x).run = some oy → (r2exp_T ok0 g0_0 ok2 g2_2 (x.1.1) (x.1.2.1) (x.1.2.2.1)).run = some oy) : SummOk Try.prog 104 (r2exp_S.summ pre F) :=
  fn_tree te_ok E_r2mul_ok E_r2mul_any (f := 104) (fn := Try.f104) (c := codeOf Try.f104) (by kernel_rfl) (by kernel_rfl) (by kernel_rfl) (S := r2exp_S) (k := 0) (by kernel_rfl) (fun R hR => (lamOk_cons (c := (codeOf Try.f104)) (by kernel_rfl) (id := 2) (by kernel_rfl) (loop_ok te_ok E_r2mul_ok E_r2mul_any (sh := r2exp_s2) hR (xs := r2exp_x2) (xsMk_small (by kernel_rfl) (by kernel_rfl) hR) xsMk_pan lamOk_nil (n := 1000) (T := r2exp_U2) (fun s Q => r2exp_q2 s Q) (ok := ok2) (f := r2exp_f2 g2_2) h2) (lamOk_cons (c := (codeOf Try.f104)) (by kernel_rfl) (id := 0) (by kernel_rfl) (loop_ok te_ok E_r2mul_ok E_r2mul_any (sh := r2exp_s0) hR (xs := r2exp_x0) (xsMk_small (by kernel_rfl) (by kernel_rfl) hR) xsMk_pan lamOk_nil (n := 1000) (T := r2exp_U0) (fun s Q => r2exp_q0 s Q) (ok := ok0) (f := r2exp_f0 g0_0) h0) lamOk_nil))) (n := 1000) (sel := r2exp_sel) (fun v o h => by cases h; rfl) (pre := pre) (F := F) (T := fun x => r2exp_T ok0 g0_0 ok2 g2_2 (x.1.1) (x.1.2.1) (x.1.2.2.1)) (fun x Q => r2exp_q ok0 g0_0 ok2 g2_2 x Q) hF
theorem mul_mod3 (p a b c : Nat) : a % p * (b % p) % p = a * b % p := (Nat.mul_mod a b p).symm
theorem powM_eq {p : Nat} : ∀ (n o x k : Nat), k < 2 ^ n → o < p → powM p n o x k = o * x ^ k % p
  | 0, o, x, k, hk, ho => by
    have : k = 0 := by omega
    subst this
    show o = _
    rw [Nat.pow_zero, Nat.mul_one, Nat.mod_eq_of_lt ho]
  | n + 1, o, x, k, hk, ho => by
    unfold powM
    rw [Nat.pow_succ] at hk
    cases h0 : Nat.beq k 0
    · simp only [cond_false]
      have hsq : (x * x % p) ^ (k / 2) % p = x ^ (2 * (k / 2)) % p := by
        rw [← Nat.pow_mod, Nat.pow_mul, Nat.pow_two]
      cases h1 : Nat.beq (k % 2) 1
      · have h1' : ¬ k % 2 = 1 := fun e => by rw [e] at h1; cases h1
        simp only [cond_false]
        rw [powM_eq n _ _ _ (by omega) ho, Nat.mul_mod, hsq, ← Nat.mul_mod, show 2 * (k / 2) = k by omega]
      · have h1 := Nat.eq_of_beq_eq_true h1
        simp only [cond_true]
        rw [powM_eq n _ _ _ (by omega) (Nat.mod_lt _ (by omega)), Nat.mul_mod, hsq, Nat.mod_mod, ← Nat.mul_mod, Nat.mul_assoc, ← Nat.pow_succ', show (2 * (k / 2)).succ = k by omega]
    · have h0 := Nat.eq_of_beq_eq_true h0
      subst h0
      simp only [cond_true]
      rw [Nat.pow_zero, Nat.mul_one, Nat.mod_eq_of_lt ho]
theorem expP_eq {p : Nat} (hp : 1 < p) (a k : Elem) : expP p a k = ofN (a.nat ^ k.nat % p) := by
  rw [expP_def (by omega), powM_eq 256 1 _ _ (nat_lt k) hp, Nat.one_mul, ← Nat.pow_mod]
theorem ebit {b : Elem} {k : Nat} (hk : k < 256) : (shr64 (List.getD (lst b) (Int.toNat (Int.tdiv (k : Int) 64) + 0) 0) (((i2u (Int.tmod (k : Int) 64)).toNat : Nat) : Int) &&& 1 == 1) = bitN b.nat k := by
  have h := da_bit (b := b) (n := 255 - k) (by omega)
  rw [show (255 : Int) - ((255 - k : Nat) : Int) = (k : Int) by omega, show 255 - (255 - k) = k by omega] at h
  exact h
theorem and_01 (x : UInt64) : (x &&& 1 == 0) = !(x &&& 1 == 1) := by
  have h := bit_one x
  have e : (x &&& 1).toNat = x.toNat % 2 := by
    rw [UInt64.toNat_and]
    exact Nat.and_two_pow_sub_one_eq_mod x.toNat 1
  have h2 : x.toNat % 2 = 0 ∨ x.toNat % 2 = 1 := by omega
  rcases h2 with h2 | h2
  · have : x &&& 1 = 0 := UInt64.toNat_inj.1 (by rw [e, h2]; rfl)
    rw [this]; rfl
  · have : x &&& 1 = 1 := UInt64.toNat_inj.1 (by rw [e, h2]; rfl)
    rw [this]; rfl
def topN (e : Nat) : Nat → Int
  | 0 => -1
  | n + 1 => cond (bitN e n) (n : Int) (topN e n)
theorem bitN_not {e n : Nat} (h : bitN e n = false) : e / 2 ^ n % 2 = 0 := by
  unfold bitN at h
  have : ¬ e / 2 ^ n % 2 = 1 := fun e => by rw [e] at h; cases h
  omega
theorem topN_spec (e : Nat) : ∀ n, e / 2 ^ n = 0 → ∃ t : Nat, topN e n = (t : Int) - 1 ∧ t ≤ n ∧ e / 2 ^ t = 0
  | 0, h => ⟨0, rfl, Nat.le_refl _, h⟩
  | n + 1, h => by
    unfold topN
    cases hb : bitN e n
    · simp only [cond_false]
      have h0 := bitN_not hb
      have h1 : e / 2 ^ n / 2 = 0 := by rw [Nat.div_div_eq_div_mul, ← Nat.pow_succ]; exact h
      obtain ⟨t, e1, e2, e3⟩ := topN_spec e n (by omega)
      exact ⟨t, e1, by omega, e3⟩
    · exact ⟨n + 1, by simp only [cond_true]; omega, Nat.le_refl _, h⟩
def ex_st (s : Int) (A B : Elem) (c2 : List UInt64) (O : Elem) (i : Int) : r2exp_s0X := ((s, (), (), (), (), i, ()), (lst A, lst B, c2, lst O, ()))
theorem ex_gd {B : Elem} {k : Nat} (hk : k < 256) {α : Type} (z : OT α) : (gd [true && inR (Int.tdiv (k : Int) 64), inB (Int.tdiv (k : Int) 64) 4, decide (Int.toNat (Int.tdiv (k : Int) 64) + 0 < (lst B).length)] z).run = z.run := by
  have t1 : Int.tdiv (k : Int) 64 = ((k / 64 : Nat) : Int) := by rw [Int.tdiv_eq_ediv_of_nonneg (by omega)]; omega
  refine gd_run ?_
  simp only [t1, Int.toNat_natCast, Nat.add_zero, lst_length, List.all_cons, List.all_nil, Bool.and_true, Bool.true_and, Bool.and_eq_true]
  exact ⟨inR_of (by omega), inB_of (by omega), decide_eq_true (by omega)⟩
theorem ex_loop0 (s : Int) (A B : Elem) (c2 : List UInt64) (O : Elem) : ∀ n : Nat, n ≤ 256 → ∃ m, loopRun r2exp_U0 m (ex_st s A B c2 O ((n : Int) - 1)) = some ⟨(.exit 0, r2exp_e0_0), ex_st s A B c2 O (topN B.nat n)⟩
  | 0, _ => ⟨1, loopRun_out (OT.run_f (decide_eq_false (by dsimp only [ex_st]; omega)))⟩
  | n + 1, hn => by
    have e1 : ((n + 1 : Nat) : Int) - 1 = (n : Int) := by omega
    rw [e1]
    have hb := ebit (b := B) (k := n) (by omega)
    unfold topN
    rcases (Bool.eq_false_or_eq_true (bitN B.nat n)).symm with h | h
    · obtain ⟨m, hm⟩ := ex_loop0 s A B c2 O n (by omega)
      rw [h] at hb ⊢
      refine ⟨m + 1, loopRun_more ?_ hm⟩
      refine (OT.run_t (decide_eq_true (by dsimp only [ex_st]; omega))).trans ((ex_gd (B := B) (k := n) (by omega) _).trans ((OT.run_t ?_).trans ((gd_run ?_).trans rfl)))
      · exact (and_01 _).trans (congrArg Bool.not hb)
      · simp only [List.all_cons, List.all_nil, Bool.and_true]
        exact inR_of (by dsimp only [ex_st]; omega)
    · rw [h] at hb ⊢
      refine ⟨1, loopRun_out ?_⟩
      refine (OT.run_t (decide_eq_true (by dsimp only [ex_st]; omega))).trans ((ex_gd (B := B) (k := n) (by omega) _).trans ((OT.run_f ?_).trans rfl))
      exact (and_01 _).trans (congrArg Bool.not hb)
def r2exp_ok0 (s : r2exp_s0X) : Bool := decide (s.1.2.2.2.2.2.1 = 255 ∧ s.2.1.length = 4 ∧ s.2.2.1.length = 4 ∧ s.2.2.2.2.1.length = 4)
def r2exp_g0 (s : r2exp_s0X) : r2exp_e0_0X := ((s.1.1, (), (), (), (), topN (elemOf s.2.2.1).nat 256, ()), s.2)
theorem r2exp_h0 : ∀ s : r2exp_s0X, r2exp_ok0 s = true → ∃ m e, loopRun r2exp_U0 m s = some e ∧ (r2exp_f0 r2exp_g0 s).run = some e := by
  rintro ⟨⟨s, ⟨⟩, ⟨⟩, ⟨⟩, ⟨⟩, i, ⟨⟩⟩, ⟨l0, l1, c2, l3, ⟨⟩⟩⟩ h
  have h' := of_decide_eq_true h
  dsimp only at h'
  obtain ⟨rfl, h0, h1, h3⟩ := h'
  obtain ⟨A, rfl⟩ : ∃ a, l0 = lst a := ⟨elemOf l0, (lst_elemOf h0).symm⟩
  obtain ⟨B, rfl⟩ : ∃ a, l1 = lst a := ⟨elemOf l1, (lst_elemOf h1).symm⟩
  obtain ⟨O, rfl⟩ : ∃ a, l3 = lst a := ⟨elemOf l3, (lst_elemOf h3).symm⟩
  obtain ⟨m, hm⟩ := ex_loop0 s A B c2 O 256 (by omega)
  exact ⟨m, _, hm, rfl⟩
theorem ex_step {s : Int} (hs : sortOk s = true) (A B : Elem) (c2 : List UInt64) (O : Elem) {k : Nat} (hk : k < 256) (hO : O = ofN (A.nat ^ (B.nat / 2 ^ (k + 1)) % pS s)) :
    (r2exp_U2 (ex_st s A B c2 O (k : Int))).run = some (.inl (ex_st s A B c2 (ofN (A.nat ^ (B.nat / 2 ^ k) % pS s)) ((k : Int) - 1))) := by
  have hp := pS_pos hs
  have hb := ebit (b := B) (k := k) hk
  have t1 : Int.tdiv (k : Int) 64 = ((k / 64 : Nat) : Int) := by rw [Int.tdiv_eq_ediv_of_nonneg (by omega)]; omega
  have hOn : O.nat = A.nat ^ (B.nat / 2 ^ (k + 1)) % pS s := by rw [hO]; exact rem_nat hp
  have hi : inR ((k : Int) - 1) = true := inR_of (by omega)
  have hpre : ∀ x y, r2mul_pre ((s, x, y, ()), ()) = true := fun _ _ => hs
  have hD : mulP (pS s) O O = ofN (A.nat ^ (2 * (B.nat / 2 ^ (k + 1))) % pS s) := by
    unfold mulP
    rw [hOn, ← Nat.mul_mod, ← Nat.pow_add, ← Nat.two_mul]
  have hq : B.nat / 2 ^ k / 2 = B.nat / 2 ^ (k + 1) := by rw [Nat.div_div_eq_div_mul, ← Nat.pow_succ]
  show (r2exp_T2 s (k : Int) (lst A) (lst B) c2 (lst O)).run = _
  unfold r2exp_T2
  simp only [set4, get4, lst_length, hpre, hi]
  refine (OT.run_t (decide_eq_true (by omega))).trans ((gd_run ?_).trans ?_)
  · simp only [t1, Int.toNat_natCast, Nat.add_zero, lst_length, List.all_cons, List.all_nil, Bool.and_true, Bool.true_and, Bool.and_eq_true]
    exact ⟨rfl, rfl, rfl, inR_of (by omega), inB_of (by omega), decide_eq_true (by omega)⟩
  · rcases (Bool.eq_false_or_eq_true (bitN B.nat k)).symm with h | h
    · have h0 := bitN_not h
      rw [h] at hb
      refine (OT.run_f hb).trans ((gd_run rfl).trans ?_)
      rw [hD, ← hq, show 2 * (B.nat / 2 ^ k / 2) = B.nat / 2 ^ k by omega]
      rfl
    · have h0 : B.nat / 2 ^ k % 2 = 1 := Nat.eq_of_beq_eq_true h
      rw [h] at hb
      refine (OT.run_t hb).trans ((gd_run rfl).trans ?_)
      have e : mulP (pS s) (mulP (pS s) O O) A = ofN (A.nat ^ (B.nat / 2 ^ k) % pS s) := by
        have e2 : (mulP (pS s) O O).nat = A.nat ^ (2 * (B.nat / 2 ^ (k + 1))) % pS s := by rw [hD]; exact rem_nat hp
        show ofN (_ * _ % _) = _
        rw [e2, Nat.mod_mul_mod, ← Nat.pow_succ, ← hq, show (2 * (B.nat / 2 ^ k / 2)).succ = B.nat / 2 ^ k by omega]
      rw [e]
      rfl
theorem ex_loop2 {s : Int} (hs : sortOk s = true) (A B : Elem) (c2 : List UInt64) : ∀ (n : Nat) (O : Elem), n ≤ 256 → O = ofN (A.nat ^ (B.nat / 2 ^ n) % pS s) →
    ∃ m, loopRun r2exp_U2 m (ex_st s A B c2 O ((n : Int) - 1)) = some ⟨(.exit 2, r2exp_e2_2), (((), (), ()), (c2, lst (ofN (A.nat ^ B.nat % pS s)), ()))⟩
  | 0, O, _, hO => by
    rw [Nat.pow_zero, Nat.div_one] at hO
    rw [← hO]
    exact ⟨1, loopRun_out (OT.run_f (decide_eq_false (by dsimp only [ex_st]; omega)))⟩
  | n + 1, O, hn, hO => by
    obtain ⟨m, hm⟩ := ex_loop2 hs A B c2 n (ofN (A.nat ^ (B.nat / 2 ^ n) % pS s)) (by omega) rfl
    rw [show ((n + 1 : Nat) : Int) - 1 = (n : Int) by omega]
    exact ⟨m + 1, loopRun_more (ex_step hs A B c2 O (by omega) hO) hm⟩
def r2exp_ok2 (s : r2exp_s2X) : Bool := sortOk s.1.1 && decide (s.1.2.2.2.2.2.1 = topN (elemOf s.2.2.1).nat 256 ∧ s.2.1.length = 4 ∧ s.2.2.1.length = 4 ∧ s.2.2.2.2.1 = lst (ofP (pS s.1.1) ⟨1, 0, 0, 0⟩))
def r2exp_g2 (s : r2exp_s2X) : r2exp_e2_2X := (((), (), ()), (s.2.2.2.1, lst (ofN ((elemOf s.2.1).nat ^ (elemOf s.2.2.1).nat % pS s.1.1)), ()))
theorem r2exp_h2 : ∀ s : r2exp_s2X, r2exp_ok2 s = true → ∃ m e, loopRun r2exp_U2 m s = some e ∧ (r2exp_f2 r2exp_g2 s).run = some e := by
  rintro ⟨⟨s, ⟨⟩, ⟨⟩, ⟨⟩, ⟨⟩, i, ⟨⟩⟩, ⟨l0, l1, c2, l3, ⟨⟩⟩⟩ h
  simp only [r2exp_ok2, Bool.and_eq_true, decide_eq_true_eq] at h
  obtain ⟨hs, rfl, h0, h1, rfl⟩ := h
  obtain ⟨A, rfl⟩ : ∃ a, l0 = lst a := ⟨elemOf l0, (lst_elemOf h0).symm⟩
  obtain ⟨B, rfl⟩ : ∃ a, l1 = lst a := ⟨elemOf l1, (lst_elemOf h1).symm⟩
  obtain ⟨t, e1, e2, e3⟩ := topN_spec B.nat 256 (Nat.div_eq_of_lt (nat_lt B))
  obtain ⟨m, hm⟩ := ex_loop2 hs A B c2 t (ofP (pS s) ⟨1, 0, 0, 0⟩) e2 (by rw [e3, Nat.pow_zero]; rfl)
  rw [← e1] at hm
  exact ⟨m, _, hm, rfl⟩
theorem pS_one {s : Int} (h : sortOk s = true) : 1 < pS s := pS_two h
def r2exp_pre (x : r2expX) : Bool := sortOk x.1.1
def r2exp_F (x : r2expX) : OT r2exp_S.Y := .ok ⟨r2exp_o0, ((expP (pS x.1.1) x.1.2.1 x.1.2.2.1, ()), ())⟩
theorem r2exp_ok : SummOk Try.prog 104 (r2exp_S.summ r2exp_pre r2exp_F) := r2exp_main r2exp_ok0 r2exp_g0 r2exp_ok2 r2exp_g2 r2exp_h0 r2exp_h2 _ _ fun x oy hp ho => by
  rw [← ho]
  clear ho
  obtain ⟨⟨s, a, b, ⟨⟩⟩, ⟨⟩⟩ := x
  have hs : sortOk s = true := hp
  show _ = some (⟨r2exp_o0, ((expP (pS s) a b, ()), ())⟩ : r2exp_S.Y)
  rw [expP_eq (pS_one hs)]
  refine (OT.run_t hs).trans ((gd_run ?_).trans ?_)
  · simp only [List.all_cons, List.all_nil, Bool.and_true, Bool.and_eq_true]
    refine ⟨decide_eq_true ⟨rfl, rfl, rfl, rfl⟩, ?_, rfl, rfl, rfl⟩
    refine (Bool.and_eq_true _ _).mpr ⟨hs, ?_⟩
    exact decide_eq_true ⟨rfl, rfl, rfl, rfl⟩
  · show some (⟨r2exp_o0, ((elemOf (lay [0, 0, 0, 0] (lst (ofN (a.nat ^ b.nat % pS s))) 4 0), ()), ())⟩ : r2exp_S.Y) = _
    rw [lay4 _ _ rfl rfl]
    rfl
def r2exp_summ : Summ := (r2exp_S.summ r2exp_pre r2exp_F)
theorem r2exp_known : SummOk Try.prog 104 r2exp_summ := r2exp_ok
theorem r2exp_smono : MonoOk r2exp_summ := fn_mono
def E_r2exp : Env := envCons 104 r2exp_summ E_r2mul
theorem E_r2exp_ok : EnvOk Try.prog E_r2exp := envOk_cons r2exp_known E_r2mul_ok
theorem E_r2exp_mono : EnvMono E_r2exp := envMono_cons r2exp_smono E_r2mul_mono
theorem E_r2exp_any : AnyOk Try.prog te E_r2exp := any_ok follows te_ok E_r2exp_ok E_r2exp_mono
def r2inv_S : FnSpec := ⟨[.val false .int, .val true .elem], [], true, 0, false⟩
abbrev r2invX : Type := ((Int) × (Elem) × Unit) × (Unit)
def r2inv_o0 : OutSh := ⟨[.val true .elem, .val false .int], [], false⟩
def r2inv_sel : SV → Option OutSh := fun _ => some r2inv_o0
def r2inv_T (a0 : Int) (a1 : Elem) : OT r2inv_S.Y :=
  let z0 : Bool := sortOk a0
  let z1 : Nat := pS a0
  let z2 : Elem := ofP z1 a1
  let z3 : Elem := { w0 := 0, w1 := 0, w2 := 0, w3 := 0 }
  let z4 : Elem := (wdif (numOf (Int.toNat a0)).fst { w0 := 2, w1 := 0, w2 := 0, w3 := 0 }).fst
  (.br (z0)
  (.br (z0)
    (.br (z2.w0 == (0 : UInt64) && (z2.w1 == (0 : UInt64) && (z2.w2 == (0 : UInt64) && (z2.w3 == (0 : UInt64) && true))))
      (.ok ⟨r2inv_o0, ((z3, ((10 : Int), ())), ())⟩)
      (gd [r2exp_pre ((a0, a1, z4, ()), ())] (.ok ⟨r2inv_o0, ((expP z1 a1 z4, ((0 : Int), ())), ())⟩)))
    (.ok ⟨r2inv_o0, ((z3, ((10 : Int), ())), ())⟩))
  (.ok ⟨r2inv_o0, ((z3, ((20 : Int), ())), ())⟩))
theorem r2inv_q (x : r2invX) (Q : r2inv_S.Y → Prop) : wpf te E_r2exp lamNil 1000 Try.f108 (r2inv_S.inp.inj x).tm (r2inv_S.inp.inj x).hp (fnK r2inv_S r2inv_sel Q) (fun _ _ => False) = (r2inv_T (x.1.1) (x.1.2.1)).wpR Q := by kernel_rfl
theorem r2inv_main (pre : r2invX → Bool) (F : r2invX → OT r2inv_S.Y) (hF : ∀ (x : r2invX) oy, pre x = true → (F x).run = some oy → (r2inv_T (x.1.1) (x.1.2.1)).run = some oy) : SummOk Try.prog 108 (r2inv_S.summ pre F) :=
  fn_tree te_ok E_r2exp_ok E_r2exp_any (f := 108) (fn := Try.f108) (c := codeOf Try.f108) (by kernel_rfl) (by kernel_rfl) (by kernel_rfl) (S := r2inv_S) (k := 0) (by kernel_rfl) (fun R hR => lamOk_nil) (n := 1000) (sel := r2inv_sel) (fun v o h => by cases h; rfl) (pre := pre) (F := F) (T := fun x => r2inv_T (x.1.1) (x.1.2.1)) (fun x Q => r2inv_q x Q) hF
def r2inv_pre (x : r2invX) : Bool := sortOk x.1.1
def r2inv_F (x : r2invX) : OT r2inv_S.Y := .br (Nat.beq (x.1.2.1.nat % pS x.1.1) 0) (.ok ⟨r2inv_o0, ((⟨0, 0, 0, 0⟩, ((10 : Int), ())), ())⟩) (.ok ⟨r2inv_o0, ((invP (pS x.1.1) x.1.2.1, ((0 : Int), ())), ())⟩)
theorem r2inv_ok : SummOk Try.prog 108 (r2inv_S.summ r2inv_pre r2inv_F) := r2inv_main _ _ fun x oy hp ho => by
  rw [← ho]
  clear ho
  obtain ⟨⟨s, a, ⟨⟩⟩, ⟨⟩⟩ := x
  have hs : sortOk s = true := hp
  have hz : zeroE (ofP (pS s) a) = Nat.beq (a.nat % pS s) 0 := zero_rem (pS_pos hs) _
  refine (OT.run_t hs).trans ((OT.run_t hs).trans ?_)
  show _ = (OT.br (Nat.beq (a.nat % pS s) 0) (.ok ⟨r2inv_o0, ((⟨0, 0, 0, 0⟩, ((10 : Int), ())), ())⟩) (.ok ⟨r2inv_o0, ((invP (pS s) a, ((0 : Int), ())), ())⟩) : OT r2inv_S.Y).run
  rw [← inv_exp hs, ← hz]
  rcases (Bool.eq_false_or_eq_true (zeroE (ofP (pS s) a))).symm with h | h
  · refine (OT.run_f h).trans (Eq.trans ((gd_run ?_).trans rfl) (OT.run_f (b := zeroE (ofP (pS s) a)) h).symm)
    simp only [List.all_cons, List.all_nil, Bool.and_true]
    exact hs
  · exact (OT.run_t h).trans (OT.run_t (b := zeroE (ofP (pS s) a)) h).symm
def r2inv_summ : Summ := (r2inv_S.summ r2inv_pre r2inv_F)
theorem r2inv_known : SummOk Try.prog 108 r2inv_summ := r2inv_ok
theorem r2inv_smono : MonoOk r2inv_summ := fn_mono
def E_r2inv : Env := envCons 108 r2inv_summ E_r2exp
theorem E_r2inv_ok : EnvOk Try.prog E_r2inv := envOk_cons r2inv_known E_r2exp_ok
theorem E_r2inv_mono : EnvMono E_r2inv := envMono_cons r2inv_smono E_r2exp_mono
theorem E_r2inv_any : AnyOk Try.prog te E_r2inv := any_ok follows te_ok E_r2inv_ok E_r2inv_mono
def r2by_S : FnSpec := ⟨[.val false .int, .val true .elem, .val true .elem], [], true, 0, false⟩
abbrev r2byX : Type := ((Int) × (Elem) × (Elem) × Unit) × (Unit)
def r2by_o0 : OutSh := ⟨[.val true .elem], [], false⟩
def r2by_sel : SV → Option OutSh := fun _ => some r2by_o0
def r2by_T (a0 : Int) (a1 : Elem) (a2 : Elem) : OT r2by_S.Y :=
  let z0 : Nat := pS a0
  let z1 : Elem := { w0 := 0, w1 := 0, w2 := 0, w3 := 0 }
  let z2 : Elem := invP z0 a2
  (gd [r2inv_pre ((a0, a2, ()), ())] (.br (Nat.beq (Elem.nat a2 % z0) 0)
  (gd [r2mul_pre ((a0, a1, z1, ()), ())] (.ok ⟨r2by_o0, ((mulP z0 a1 z1, ()), ())⟩))
  (gd [r2mul_pre ((a0, a1, z2, ()), ())] (.ok ⟨r2by_o0, ((mulP z0 a1 z2, ()), ())⟩))))
theorem r2by_q (x : r2byX) (Q : r2by_S.Y → Prop) : wpf te E_r2inv lamNil 1000 Try.f89 (r2by_S.inp.inj x).tm (r2by_S.inp.inj x).hp (fnK r2by_S r2by_sel Q) (fun _ _ => False) = (r2by_T (x.1.1) (x.1.2.1) (x.1.2.2.1)).wpR Q := by kernel_rfl
theorem r2by_main (pre : r2byX → Bool) (F : r2byX → OT r2by_S.Y) (hF : ∀ (x : r2byX) oy, pre x = true → (F x).run = some oy → (r2by_T (x.1.1) (x.1.2.1) (x.1.2.2.1)).run = some oy) : SummOk Try.prog 89 (r2by_S.summ pre F) :=
  fn_tree te_ok E_r2inv_ok E_r2inv_any (f := 89) (fn := Try.f89) (c := codeOf Try.f89) (by kernel_rfl) (by kernel_rfl) (by kernel_rfl) (S := r2by_S) (k := 0) (by kernel_rfl) (fun R hR => lamOk_nil) (n := 1000) (sel := r2by_sel) (fun v o h => by cases h; rfl) (pre := pre) (F := F) (T := fun x => r2by_T (x.1.1) (x.1.2.1) (x.1.2.2.1)) (fun x Q => r2by_q x Q) hF
def byP (p : Nat) (a b : Elem) : Elem := mulP p a (inv0 p b)
def r2by_pre (x : r2byX) : Bool := sortOk x.1.1
def r2by_F (x : r2byX) : OT r2by_S.Y := .ok ⟨r2by_o0, ((byP (pS x.1.1) x.1.2.1 x.1.2.2.1, ()), ())⟩
theorem r2by_ok : SummOk Try.prog 89 (r2by_S.summ r2by_pre r2by_F) := r2by_main _ _ fun x oy hp ho => by
  rw [← ho]
  clear ho
  obtain ⟨⟨s, a, b, ⟨⟩⟩, ⟨⟩⟩ := x
  have hs : sortOk s = true := hp
  show _ = some (⟨r2by_o0, ((byP (pS s) a b, ()), ())⟩ : r2by_S.Y)
  refine (gd_run ?_).trans ?_
  · simp only [List.all_cons, List.all_nil, Bool.and_true, Bool.and_eq_true]
    exact hs
  · rcases (Bool.eq_false_or_eq_true (Nat.beq (b.nat % pS s) 0)).symm with h | h
    · have e : inv0 (pS s) b = invP (pS s) b := by unfold inv0; rw [h]; rfl
      unfold byP
      rw [e]
      refine (OT.run_f h).trans ((gd_run ?_).trans rfl)
      simp only [List.all_cons, List.all_nil, Bool.and_true]
      exact hs
    · have e : inv0 (pS s) b = ⟨0, 0, 0, 0⟩ := by unfold inv0; rw [h]; rfl
      unfold byP
      rw [e]
      refine (OT.run_t h).trans ((gd_run ?_).trans rfl)
      simp only [List.all_cons, List.all_nil, Bool.and_true]
      exact hs
def r2by_summ : Summ := (r2by_S.summ r2by_pre r2by_F)
theorem r2by_known : SummOk Try.prog 89 r2by_summ := r2by_ok
theorem r2by_smono : MonoOk r2by_summ := fn_mono
def E_r2by : Env := envCons 89 r2by_summ E_r2inv
theorem E_r2by_ok : EnvOk Try.prog E_r2by := envOk_cons r2by_known E_r2inv_ok
theorem E_r2by_mono : EnvMono E_r2by := envMono_cons r2by_smono E_r2inv_mono
theorem E_r2by_any : AnyOk Try.prog te E_r2by := any_ok follows te_ok E_r2by_ok E_r2by_mono
def r2half_S : FnSpec := ⟨[.val true .elem], [], true, 0, false⟩
abbrev r2halfX : Type := ((Elem) × Unit) × (Unit)
def r2half_s0 : Shape := ⟨29, [(1, .ptr 0 0 0), (2, .ptr 1 0 0), (3, .ptr 2 0 0), (4, .val false .int)], [(0, .row .u64), (1, .row .u64), (2, .row .u64)], 0, true⟩
abbrev r2half_s0X : Type := ((Unit) × (Unit) × (Unit) × (Int) × Unit) × ((List (UInt64)) × (List (UInt64)) × (List (UInt64)) × Unit)
def r2half_e0_0 : Shape := ⟨29, [(2, .ptr 0 0 0), (3, .ptr 1 0 0)], [(0, .row .u64), (1, .row .u64)], 0, true⟩
abbrev r2half_e0_0X : Type := ((Unit) × (Unit) × Unit) × ((List (UInt64)) × (List (UInt64)) × Unit)
def r2half_x0 : SE → Option Shape := xsMk [(0, r2half_e0_0)] none
def r2half_T0 (a4 : Int) (c0 : List (UInt64)) (c1 : List (UInt64)) (c2 : List (UInt64)) : OT (Sum r2half_s0X LEnd) :=
  let z0 : Bool := inB a4 4
  let z1 : Nat := List.length c0
  let z2 : List UInt64 := List.set c2 (Int.toNat a4 + 0) (shr64 (List.getD c0 (Int.toNat a4 + 0) (0 : UInt64)) (1 : Int))
  let z3 : Bool := decide (Int.toNat a4 + 0 < List.length z2)
  let z4 : Bool := inR (a4 + (1 : Int))
  (.br (decide (a4 < (4 : Int)))
  (gd [z0, decide (Int.toNat a4 + 0 < z1), z0, decide (Int.toNat a4 + 0 < List.length c2)] (.br (decide (a4 < (3 : Int)))
    (gd [z0, z3, z4, inB (a4 + (1 : Int)) 4, decide (Int.toNat (a4 + (1 : Int)) + 0 < z1), z0, z3, z4] (.ok (.inl (((), ((), ((), (a4 + (1 : Int), ())))), (c0, (c1, (List.set z2 (Int.toNat a4 + 0) (List.getD z2 (Int.toNat a4 + 0) (0 : UInt64) ||| shl64 (List.getD c0 (Int.toNat (a4 + (1 : Int)) + 0) (0 : UInt64)) (63 : Int)), ())))))))
    (gd [z4] (.ok (.inl (((), ((), ((), (a4 + (1 : Int), ())))), (c0, (c1, (z2, ())))))))))
  (.ok (.inr ⟨(.exit 0, r2half_e0_0), (((), ((), ())), (c1, (c2, ())))⟩)))
def r2half_U0 (s : r2half_s0X) : OT (Sum r2half_s0X LEnd) := r2half_T0 (s.1.2.2.2.1) (s.2.1) (s.2.2.1) (s.2.2.2.1)
theorem r2half_q0 (s : r2half_s0X) (Q : Sum r2half_s0X LEnd → Prop) : wps te E_r2by lamNil 1000 (loopOf (codeOf Try.f105) 0) (r2half_s0.inj s) (stepK r2half_s0 r2half_x0 (Q : Sum r2half_s0.T LEnd → Prop)) = (r2half_U0 s).wpR Q := by kernel_rfl
def r2half_f0 (g0_0 : r2half_s0X → r2half_e0_0X) (s : r2half_s0X) : OT LEnd := (.ok ⟨(.exit 0, r2half_e0_0), g0_0 s⟩)
def r2half_o0 : OutSh := ⟨[.val true .elem], [], false⟩
def r2half_sel : SV → Option OutSh := fun _ => some r2half_o0
def r2half_T (ok0 : r2half_s0X → Bool) (g0_0 : r2half_s0X → r2half_e0_0X) (a0 : Elem) : OT r2half_S.Y :=
  let z0 : (PUnit × PUnit × PUnit × Int × PUnit) × List UInt64 × List UInt64 × List UInt64 × PUnit := (((), (), (), (0 : Int), ()), [a0.w0, a0.w1, a0.w2, a0.w3], [(0 : UInt64), (0 : UInt64), (0 : UInt64), (0 : UInt64)], [(0 : UInt64), (0 : UInt64), (0 : UInt64), (0 : UInt64)], ())
  let z1 := (g0_0 z0).snd
  let z2 := z1.snd.fst
  let z3 := z1.fst
  let z4 : List UInt64 := lay z3 z2 4 (0 : UInt64)
  (gd [ok0 z0, decide (4 ≤ List.length z2), decide ((4 / 1 : Nat) + 0 ≤ List.length z3), decide (4 ≤ List.length z4)] (.ok ⟨r2half_o0, (({ w0 := List.getD z4 0 0, w1 := List.getD z4 1 0, w2 := List.getD z4 2 0, w3 := List.getD z4 3 0 }, ()), ())⟩))
theorem r2half_q (ok0 : r2half_s0X → Bool) (g0_0 : r2half_s0X → r2half_e0_0X) (x : r2halfX) (Q : r2half_S.Y → Prop) : wpf te E_r2by (lamCons 0 (loopF r2half_s0 0 ok0 (r2half_f0 g0_0)) lamNil) 1000 Try.f105 (r2half_S.inp.inj x).tm (r2half_S.inp.inj x).hp (fnK r2half_S r2half_sel Q) (fun _ _ => False) = (r2half_T ok0 g0_0 (x.1.1)).wpR Q := by kernel_rfl
theorem r2half_main (ok0 : r2half_s0X → Bool) (g0_0 : r2half_s0X → r2half_e0_0X) (h0 : ∀ s : r2half_s0X, ok0 s = true → ∃ m e, loopRun (r2half_U0) m s = some e ∧ (r2half_f0 g0_0 s).run = some e) (pre : r2halfX → Bool) (F : r2halfX → OT r2half_S.Y) (hF : ∀ (x : r2halfX) oy, pre x = true → (F x).run = some oy → (r2half_T ok0 g0_0 (x.1.1)).run = some oy) : SummOk Try.prog 105 (r2half_S.summ pre F) :=
  fn_tree te_ok E_r2by_ok E_r2by_any (f := 105) (fn := Try.f105) (c := codeOf Try.f105) (by kernel_rfl) (by kernel_rfl) (by kernel_rfl) (S := r2half_S) (k := 0) (by kernel_rfl) (fun R hR => (lamOk_cons (c := (codeOf Try.f105)) (by kernel_rfl) (id := 0) (by kernel_rfl) (loop_ok te_ok E_r2by_ok E_r2by_any (sh := r2half_s0) hR (xs := r2half_x0) (xsMk_small (by kernel_rfl) (by kernel_rfl) hR) xsMk_pan lamOk_nil (n := 1000) (T := r2half_U0) (fun s Q => r2half_q0 s Q) (ok := ok0) (f := r2half_f0 g0_0) h0) lamOk_nil)) (n := 1000) (sel := r2half_sel) (fun v o h => by cases h; rfl) (pre := pre) (F := F) (T := fun x => r2half_T ok0 g0_0 (x.1.1)) (fun x Q => r2half_q ok0 g0_0 x Q) hF
def half_st (a : Elem) (c1 l : List UInt64) (i : Int) : r2half_s0X := (((), (), (), i, ()), (lst a, c1, l, ()))
theorem half_0 (a : Elem) (c1 : List UInt64) : (r2half_U0 (half_st a c1 [0, 0, 0, 0] 0)).run = some (.inl (half_st a c1 [shr64 a.w0 1 ||| shl64 a.w1 63, 0, 0, 0] 1)) := rfl
theorem half_1 (a : Elem) (c1 : List UInt64) (x : UInt64) : (r2half_U0 (half_st a c1 [x, 0, 0, 0] 1)).run = some (.inl (half_st a c1 [x, shr64 a.w1 1 ||| shl64 a.w2 63, 0, 0] 2)) := rfl
theorem half_2 (a : Elem) (c1 : List UInt64) (x y : UInt64) : (r2half_U0 (half_st a c1 [x, y, 0, 0] 2)).run = some (.inl (half_st a c1 [x, y, shr64 a.w2 1 ||| shl64 a.w3 63, 0] 3)) := rfl
theorem half_3 (a : Elem) (c1 : List UInt64) (x y z : UInt64) : (r2half_U0 (half_st a c1 [x, y, z, 0] 3)).run = some (.inl (half_st a c1 [x, y, z, shr64 a.w3 1] 4)) := rfl
theorem half_4 (a : Elem) (c1 l : List UInt64) : (r2half_U0 (half_st a c1 l 4)).run = some (.inr ⟨(.exit 0, r2half_e0_0), (((), (), ()), (c1, l, ()))⟩) := rfl
def r2half_ok0 (s : r2half_s0X) : Bool := decide (s.1.2.2.2.1 = 0 ∧ s.2.1.length = 4 ∧ s.2.2.2.1 = [0, 0, 0, 0])
def r2half_g0 (s : r2half_s0X) : r2half_e0_0X := (((), (), ()), (s.2.2.1, lst (halfE (elemOf s.2.1)), ()))
theorem r2half_h0 : ∀ s : r2half_s0X, r2half_ok0 s = true → ∃ m e, loopRun r2half_U0 m s = some e ∧ (r2half_f0 r2half_g0 s).run = some e := by
  rintro ⟨⟨⟨⟩, ⟨⟩, ⟨⟩, i, ⟨⟩⟩, ⟨l, c1, c2, ⟨⟩⟩⟩ h
  have h' := of_decide_eq_true h
  dsimp only at h'
  obtain ⟨rfl, hl, rfl⟩ := h'
  obtain ⟨a, rfl⟩ : ∃ a, l = lst a := ⟨elemOf l, (lst_elemOf hl).symm⟩
  refine ⟨_, _, loopRun_more (half_0 a c1) (loopRun_more (half_1 a c1 _) (loopRun_more (half_2 a c1 _ _) (loopRun_more (half_3 a c1 _ _ _) (loopRun_out (half_4 a c1 _))))), ?_⟩
  have e : [shr64 a.w0 1 ||| shl64 a.w1 63, shr64 a.w1 1 ||| shl64 a.w2 63, shr64 a.w2 1 ||| shl64 a.w3 63, shr64 a.w3 1] = lst (halfE a) := by rw [halfE_eq]; rfl
  rw [e]
  rfl
def r2half_pre (_ : r2halfX) : Bool := true
def r2half_F (x : r2halfX) : OT r2half_S.Y := .ok ⟨r2half_o0, ((halfE x.1.1, ()), ())⟩
theorem r2half_ok : SummOk Try.prog 105 (r2half_S.summ r2half_pre r2half_F) := r2half_main r2half_ok0 r2half_g0 r2half_h0 _ _ fun x oy hp ho => by
  rw [← ho]
  clear ho
  obtain ⟨⟨a, ⟨⟩⟩, ⟨⟩⟩ := x
  refine (gd_run ?_).trans ?_
  · simp only [List.all_cons, List.all_nil, Bool.and_true, Bool.and_eq_true]
    exact ⟨decide_eq_true ⟨rfl, rfl, rfl⟩, rfl, rfl, rfl⟩
  · show some (⟨r2half_o0, ((elemOf (lay [0, 0, 0, 0] (lst (halfE a)) 4 0), ()), ())⟩ : r2half_S.Y) = some ⟨r2half_o0, ((halfE a, ()), ())⟩
    rw [lay4 _ _ rfl rfl]
    rfl
def r2half_summ : Summ := (r2half_S.summ r2half_pre r2half_F)
theorem r2half_known : SummOk Try.prog 105 r2half_summ := r2half_ok
theorem r2half_smono : MonoOk r2half_summ := fn_mono
def E_r2half : Env := envCons 105 r2half_summ E_r2by
theorem E_r2half_ok : EnvOk Try.prog E_r2half := envOk_cons r2half_known E_r2by_ok
theorem E_r2half_mono : EnvMono E_r2half := envMono_cons r2half_smono E_r2by_mono
theorem E_r2half_any : AnyOk Try.prog te E_r2half := any_ok follows te_ok E_r2half_ok E_r2half_mono
def r2halves_S : FnSpec := ⟨[.val true .elem, .val false .int], [], true, 0, false⟩
abbrev r2halvesX : Type := ((Elem) × (Int) × Unit) × (Unit)
def r2halves_s0 : Shape := ⟨14, [(1, .val false .int), (2, .ptr 0 0 0), (4, .ptr 1 0 0), (5, .val false .int)], [(0, .row .u64), (1, .row .u64)], 0, true⟩
abbrev r2halves_s0X : Type := ((Int) × (Unit) × (Unit) × (Int) × Unit) × ((List (UInt64)) × (List (UInt64)) × Unit)
def r2halves_e0_0 : Shape := ⟨14, [(2, .ptr 0 0 0), (4, .ptr 1 0 0)], [(0, .row .u64), (1, .row .u64)], 0, true⟩
abbrev r2halves_e0_0X : Type := ((Unit) × (Unit) × Unit) × ((List (UInt64)) × (List (UInt64)) × Unit)
def r2halves_x0 : SE → Option Shape := xsMk [(0, r2halves_e0_0)] none
def r2halves_T0 (a1 : Int) (a5 : Int) (c0 : List (UInt64)) (c1 : List (UInt64)) : OT (Sum r2halves_s0X LEnd) :=
  let z0 : Nat := List.length c0
  let z1 : Elem := halfE { w0 := List.getD c0 0 0, w1 := List.getD c0 1 0, w2 := List.getD c0 2 0, w3 := List.getD c0 3 0 }
  (.br (decide (a5 < a1))
  (gd [decide (4 ≤ z0), decide ((4 / 1 : Nat) + 0 ≤ z0), inR (a5 + (1 : Int))] (.ok (.inl ((a1, ((), ((), (a5 + (1 : Int), ())))), (List.set (List.set (List.set (List.set c0 0 z1.w0) 1 z1.w1) 2 z1.w2) 3 z1.w3, (c1, ()))))))
  (.ok (.inr ⟨(.exit 0, r2halves_e0_0), (((), ((), ())), (c0, (c1, ())))⟩)))
def r2halves_U0 (s : r2halves_s0X) : OT (Sum r2halves_s0X LEnd) := r2halves_T0 (s.1.1) (s.1.2.2.2.1) (s.2.1) (s.2.2.1)
theorem r2halves_q0 (s : r2halves_s0X) (Q : Sum r2halves_s0X LEnd → Prop) : wps te E_r2half lamNil 1000 (loopOf (codeOf Try.f107) 0) (r2halves_s0.inj s) (stepK r2halves_s0 r2halves_x0 (Q : Sum r2halves_s0.T LEnd → Prop)) = (r2halves_U0 s).wpR Q := by kernel_rfl
def r2halves_f0 (g0_0 : r2halves_s0X → r2halves_e0_0X) (s : r2halves_s0X) : OT LEnd := (.ok ⟨(.exit 0, r2halves_e0_0), g0_0 s⟩)
def r2halves_o0 : OutSh := ⟨[.val true .elem], [], false⟩
def r2halves_sel : SV → Option OutSh := fun _ => some r2halves_o0
def r2halves_T (ok0 : r2halves_s0X → Bool) (g0_0 : r2halves_s0X → r2halves_e0_0X) (a0 : Elem) (a1 : Int) : OT r2halves_S.Y :=
  let z0 : (Int × PUnit × PUnit × Int × PUnit) × List UInt64 × List UInt64 × PUnit := ((a1, (), (), (0 : Int), ()), [a0.w0, a0.w1, a0.w2, a0.w3], [(0 : UInt64), (0 : UInt64), (0 : UInt64), (0 : UInt64)], ())
  let z1 := (g0_0 z0).snd
  let z2 := z1.fst
  let z3 := z1.snd.fst
  let z4 : List UInt64 := lay z3 z2 4 (0 : UInt64)
  (gd [ok0 z0, decide (4 ≤ List.length z2), decide ((4 / 1 : Nat) + 0 ≤ List.length z3), decide (4 ≤ List.length z4)] (.ok ⟨r2halves_o0, (({ w0 := List.getD z4 0 0, w1 := List.getD z4 1 0, w2 := List.getD z4 2 0, w3 := List.getD z4 3 0 }, ()), ())⟩))
theorem r2halves_q (ok0 : r2halves_s0X → Bool) (g0_0 : r2halves_s0X → r2halves_e0_0X) (x : r2halvesX) (Q : r2halves_S.Y → Prop) : wpf te E_r2half (lamCons 0 (loopF r2halves_s0 0 ok0 (r2halves_f0 g0_0)) lamNil) 1000 Try.f107 (r2halves_S.inp.inj x).tm (r2halves_S.inp.inj x).hp (fnK r2halves_S r2halves_sel Q) (fun _ _ => False) = (r2halves_T ok0 g0_0 (x.1.1) (x.1.2.1)).wpR Q := by kernel_rfl
theorem r2halves_main (ok0 : r2halves_s0X → Bool) (g0_0 : r2halves_s0X → r2halves_e0_0X) (h0 : ∀ s : r2halves_s0X, ok0 s = true → ∃ m e, loopRun (r2halves_U0) m s = some e ∧ (r2halves_f0 g0_0 s).run = some e) (pre : r2halvesX → Bool) (F : r2halvesX → OT r2halves_S.Y) (hF : ∀ (x : r2halvesX) oy, pre x = true → (F x).run = some oy → (r2halves_T ok0 g0_0 (x.1.1) (x.1.2.1)).run = some oy) : SummOk Try.prog 107 (r2halves_S.summ pre F) :=
  fn_tree te_ok E_r2half_ok E_r2half_any (f := 107) (fn := Try.f107) (c := codeOf Try.f107) (by kernel_rfl) (by kernel_rfl) (by kernel_rfl) (S := r2halves_S) (k := 0) (by kernel_rfl) (fun R hR => (lamOk_cons (c := (codeOf Try.f107)) (by kernel_rfl) (id := 0) (by kernel_rfl) (loop_ok te_ok E_r2half_ok E_r2half_any (sh := r2halves_s0) hR (xs := r2halves_x0) (xsMk_small (by kernel_rfl) (by kernel_rfl) hR) xsMk_pan lamOk_nil (n := 1000) (T := r2halves_U0) (fun s Q => r2halves_q0 s Q) (ok := ok0) (f := r2halves_f0 g0_0) h0) lamOk_nil)) (n := 1000) (sel := r2halves_sel) (fun v o h => by cases h; rfl) (pre := pre) (F := F) (T := fun x => r2halves_T ok0 g0_0 (x.1.1) (x.1.2.1)) (fun x Q => r2halves_q ok0 g0_0 x Q) hF
def r2halves_ok0 (s : r2halves_s0X) : Bool := decide (s.1.2.2.2.1 = 0 ∧ 0 ≤ s.1.1 ∧ s.1.1 ≤ 1000000 ∧ s.2.1.length = 4)
def r2halves_g0 (s : r2halves_s0X) : r2halves_e0_0X := (((), (), ()), (lst (halvesE (elemOf s.2.1) s.1.1.toNat), s.2.2.1, ()))
theorem r2halves_h0 : ∀ s : r2halves_s0X, r2halves_ok0 s = true → ∃ m e, loopRun r2halves_U0 m s = some e ∧ (r2halves_f0 r2halves_g0 s).run = some e := by
  rintro ⟨⟨k, ⟨⟩, ⟨⟩, i, ⟨⟩⟩, ⟨l, o, ⟨⟩⟩⟩ h
  have h' := of_decide_eq_true h
  dsimp only at h'
  obtain ⟨rfl, h0, h1, hl⟩ := h'
  obtain ⟨a, rfl⟩ : ∃ a, l = lst a := ⟨elemOf l, (lst_elemOf hl).symm⟩
  have := (loop_upto (T := r2halves_U0) (fun i a => (((k, (), (), (i : Int), ()), (lst a, o, ())) : r2halves_s0X)) (fun _ e => halfE e)
    (fun a => (⟨(.exit 0, r2halves_e0_0), (((), (), ()), (lst a, o, ()))⟩ : LEnd)) k.toNat a (fun _ _ => True) trivial (fun i a hi _ => ⟨?_, trivial⟩) (fun a _ => ?_)).1
  · rw [halves_upto] at this
    obtain ⟨m, hm⟩ := this
    exact ⟨m, _, hm, rfl⟩
  · refine (OT.run_t (decide_eq_true (by dsimp only; omega))).trans ((gd_run ?_).trans rfl)
    simp only [List.all_cons, List.all_nil, Bool.and_true, Bool.and_eq_true]
    exact ⟨rfl, rfl, inR_of (by omega)⟩
  · exact OT.run_f (decide_eq_false (by dsimp only; omega))
def r2halves_pre (x : r2halvesX) : Bool := decide (0 ≤ x.1.2.1 ∧ x.1.2.1 ≤ 1000000)
def r2halves_F (x : r2halvesX) : OT r2halves_S.Y := .ok ⟨r2halves_o0, ((halvesE x.1.1 x.1.2.1.toNat, ()), ())⟩
theorem r2halves_ok : SummOk Try.prog 107 (r2halves_S.summ r2halves_pre r2halves_F) := r2halves_main r2halves_ok0 r2halves_g0 r2halves_h0 _ _ fun x oy hp ho => by
  rw [← ho]
  clear ho
  obtain ⟨⟨a, k, ⟨⟩⟩, ⟨⟩⟩ := x
  have hp' : 0 ≤ k ∧ k ≤ 1000000 := of_decide_eq_true hp
  refine (gd_run ?_).trans ?_
  · simp only [List.all_cons, List.all_nil, Bool.and_true, Bool.and_eq_true]
    exact ⟨decide_eq_true ⟨rfl, hp'.1, hp'.2, rfl⟩, rfl, rfl, rfl⟩
  · show some (⟨r2halves_o0, ((elemOf (lay [0, 0, 0, 0] (lst (halvesE a k.toNat)) 4 0), ()), ())⟩ : r2halves_S.Y) = some ⟨r2halves_o0, ((halvesE a k.toNat, ()), ())⟩
    rw [lay4 _ _ rfl rfl]
    rfl
def r2halves_summ : Summ := (r2halves_S.summ r2halves_pre r2halves_F)
theorem r2halves_known : SummOk Try.prog 107 r2halves_summ := r2halves_ok
theorem r2halves_smono : MonoOk r2halves_summ := fn_mono
def E_r2halves : Env := envCons 107 r2halves_summ E_r2half
theorem E_r2halves_ok : EnvOk Try.prog E_r2halves := envOk_cons r2halves_known E_r2half_ok
theorem E_r2halves_mono : EnvMono E_r2halves := envMono_cons r2halves_smono E_r2half_mono
theorem E_r2halves_any : AnyOk Try.prog te E_r2halves := any_ok follows te_ok E_r2halves_ok E_r2halves_mono
end Go.Proofs.Ytkedomfjjahjnaa

namespace Go.Proofs.Ytkedomfjjahjnaa
namespace Sx
open Go
theorem OT.bind_run {α β : Type} {f : α → OT β} : ∀ {t : OT α} {a : α} {b : β}, t.run = some a → (f a).run = some b → (t.bind f).run = some b
  | .ok x, a, b, h, h2 => by
    cases h
    exact h2
  | .br c x y, a, b, h, h2 => by
    cases c
    · exact OT.bind_run (t := y) h h2
    · exact OT.bind_run (t := x) h h2
  | .fail, a, b, h, _ => by cases h
theorem summ_narrow {P : Program} {n : FuncId} {S : FnSpec} {pre pre' : S.T → Bool} {F F' : S.T → OT S.Y} (h : SummOk P n (S.summ pre F))
    (hw : ∀ x oy, pre' x = true → (F' x).run = some oy → pre x = true ∧ (F x).run = some oy) : SummOk P n (S.summ pre' F') := by
  refine ⟨fun R w d args vs out hm hr hrun => h.calls R w d args vs out hm hr ?_⟩
  simp only [FnSpec.summ] at hrun ⊢
  split at hrun
  · cases hrun
  · rename_i x hx
    obtain ⟨hp, hrun⟩ := OT.run_guard hrun
    obtain ⟨oy, h1, h2⟩ := OT.run_bind hrun
    obtain ⟨h3, h4⟩ := hw x oy hp h1
    rw [h3]
    exact OT.bind_run h4 h2
end Sx
end Go.Proofs.Ytkedomfjjahjnaa

namespace Go.Proofs.Ytkedomfjjahjnaa
open Sx Go
set_option maxRecDepth 100000
abbrev r2modn_S : FnSpec := r2mod_S
def r2modn_pre (x : r2modX) : Bool := sortOk x.1.1
def r2modn_F (x : r2modX) : OT r2mod_S.Y := .ok ⟨r2mod_o0, (((numOf x.1.1.toNat).1, ((0 : Int), ())), ())⟩
theorem r2modn_ok : SummOk Try.prog 85 (r2modn_S.summ r2modn_pre r2modn_F) := summ_narrow (S := r2mod_S) r2mod_ok fun x oy hp ho => ⟨rfl, (OT.run_t (b := sortOk x.1.1) hp).trans ho⟩
def r2modn_summ : Summ := (r2modn_S.summ r2modn_pre r2modn_F)
theorem r2modn_known : SummOk Try.prog 85 r2modn_summ := r2modn_ok
theorem r2modn_smono : MonoOk r2modn_summ := fn_mono
def E_r2modn : Env := envCons 85 r2modn_summ E_r2halves
theorem E_r2modn_ok : EnvOk Try.prog E_r2modn := envOk_cons r2modn_known E_r2halves_ok
theorem E_r2modn_mono : EnvMono E_r2modn := envMono_cons r2modn_smono E_r2halves_mono
theorem E_r2modn_any : AnyOk Try.prog te E_r2modn := any_ok follows te_ok E_r2modn_ok E_r2modn_mono
abbrev r2adin_S : FnSpec := r2adi_S
def r2adin_pre (x : r2adiX) : Bool := sortOk x.1.1
def r2adin_F (x : r2adiX) : OT r2adi_S.Y := .ok ⟨r2adi_o0, (((numOf x.1.1.toNat).2.1, ((0 : Int), ())), ())⟩
theorem r2adin_ok : SummOk Try.prog 106 (r2adin_S.summ r2adin_pre r2adin_F) := summ_narrow (S := r2adi_S) r2adi_ok fun x oy hp ho => ⟨rfl, (OT.run_t (b := sortOk x.1.1) hp).trans ho⟩
def r2adin_summ : Summ := (r2adin_S.summ r2adin_pre r2adin_F)
theorem r2adin_known : SummOk Try.prog 106 r2adin_summ := r2adin_ok
theorem r2adin_smono : MonoOk r2adin_summ := fn_mono
def E_r2adin : Env := envCons 106 r2adin_summ E_r2modn
theorem E_r2adin_ok : EnvOk Try.prog E_r2adin := envOk_cons r2adin_known E_r2modn_ok
theorem E_r2adin_mono : EnvMono E_r2adin := envMono_cons r2adin_smono E_r2modn_mono
theorem E_r2adin_any : AnyOk Try.prog te E_r2adin := any_ok follows te_ok E_r2adin_ok E_r2adin_mono
abbrev r2ofn_S : FnSpec := r2of_S
def r2ofn_pre (x : r2ofX) : Bool := sortOk x.1.1
def r2ofn_F (x : r2ofX) : OT r2of_S.Y := .ok ⟨r2of_o0, ((ofP (pS x.1.1) x.1.2.1, ()), ())⟩
theorem r2ofn_ok : SummOk Try.prog 54 (r2ofn_S.summ r2ofn_pre r2ofn_F) := summ_narrow (S := r2of_S) r2of_ok fun x oy hp ho => ⟨rfl, (OT.run_t (b := sortOk x.1.1) hp).trans ho⟩
def r2ofn_summ : Summ := (r2ofn_S.summ r2ofn_pre r2ofn_F)
theorem r2ofn_known : SummOk Try.prog 54 r2ofn_summ := r2ofn_ok
theorem r2ofn_smono : MonoOk r2ofn_summ := fn_mono
def E_r2ofn : Env := envCons 54 r2ofn_summ E_r2adin
theorem E_r2ofn_ok : EnvOk Try.prog E_r2ofn := envOk_cons r2ofn_known E_r2adin_ok
theorem E_r2ofn_mono : EnvMono E_r2ofn := envMono_cons r2ofn_smono E_r2adin_mono
theorem E_r2ofn_any : AnyOk Try.prog te E_r2ofn := any_ok follows te_ok E_r2ofn_ok E_r2ofn_mono
def r4inf_S : FnSpec := ⟨[], [], true, 0, false⟩
abbrev r4infX : Type := (Unit) × (Unit)
def r4inf_o0 : OutSh := ⟨[.val true (.prod .elem (.prod .elem .bool))], [], false⟩
def r4inf_sel : SV → Option OutSh := fun _ => some r4inf_o0
def r4inf_T : OT r4inf_S.Y :=
  let z0 : Elem := { w0 := 0, w1 := 0, w2 := 0, w3 := 0 }
  (.ok ⟨r4inf_o0, (((z0, z0, true), ()), ())⟩)
theorem r4inf_q (x : r4infX) (Q : r4inf_S.Y → Prop) : wpf te E_r2ofn lamNil 1000 Try.f53 (r4inf_S.inp.inj x).tm (r4inf_S.inp.inj x).hp (fnK r4inf_S r4inf_sel Q) (fun _ _ => False) = (r4inf_T).wpR Q := by kernel_rfl
theorem r4inf_main (pre : r4infX → Bool) (F : r4infX → OT r4inf_S.Y) (hF : ∀ (x : r4infX) oy, pre x = true → (F x).run = some oy → (r4inf_T).run = some oy) : SummOk Try.prog 53 (r4inf_S.summ pre F) :=
  fn_tree te_ok E_r2ofn_ok E_r2ofn_any (f := 53) (fn := Try.f53) (c := codeOf Try.f53) (by kernel_rfl) (by kernel_rfl) (by kernel_rfl) (S := r4inf_S) (k := 0) (by kernel_rfl) (fun R hR => lamOk_nil) (n := 1000) (sel := r4inf_sel) (fun v o h => by cases h; rfl) (pre := pre) (F := F) (T := fun x => r4inf_T) (fun x Q => r4inf_q x Q) hF
def r4inf_pre (_ : r4infX) : Bool := true
def r4inf_F (_ : r4infX) : OT r4inf_S.Y := .ok ⟨r4inf_o0, ((inftyP, ()), ())⟩
theorem r4inf_ok : SummOk Try.prog 53 (r4inf_S.summ r4inf_pre r4inf_F) := r4inf_main _ _ fun x oy _ ho => ho
def r4inf_summ : Summ := (r4inf_S.summ r4inf_pre r4inf_F)
theorem r4inf_known : SummOk Try.prog 53 r4inf_summ := r4inf_ok
theorem r4inf_smono : MonoOk r4inf_summ := fn_mono
def E_r4inf : Env := envCons 53 r4inf_summ E_r2ofn
theorem E_r4inf_ok : EnvOk Try.prog E_r4inf := envOk_cons r4inf_known E_r2ofn_ok
theorem E_r4inf_mono : EnvMono E_r4inf := envMono_cons r4inf_smono E_r2ofn_mono
theorem E_r4inf_any : AnyOk Try.prog te E_r4inf := any_ok follows te_ok E_r4inf_ok E_r4inf_mono
def r4b_S : FnSpec := ⟨[.val false .int], [], true, 0, false⟩
abbrev r4bX : Type := ((Int) × Unit) × (Unit)
def r4b_o0 : OutSh := ⟨[.val true .elem], [], false⟩
def r4b_sel : SV → Option OutSh := fun _ => some r4b_o0
def r4b_T (a0 : Int) : OT r4b_S.Y :=
  (gd [inB a0 4, decide (Int.toNat a0 + 0 < 4)] (.ok ⟨r4b_o0, (({ w0 := List.getD [(23 : UInt64), (21 : UInt64), (5 : UInt64), (5 : UInt64)] (Int.toNat a0 + 0) (0 : UInt64), w1 := 0, w2 := 0, w3 := 0 }, ()), ())⟩))
theorem r4b_q (x : r4bX) (Q : r4b_S.Y → Prop) : wpf te E_r4inf lamNil 1000 Try.f93 (r4b_S.inp.inj x).tm (r4b_S.inp.inj x).hp (fnK r4b_S r4b_sel Q) (fun _ _ => False) = (r4b_T (x.1.1)).wpR Q := by kernel_rfl
theorem r4b_main (pre : r4bX → Bool) (F : r4bX → OT r4b_S.Y) (hF : ∀ (x : r4bX) oy, pre x = true → (F x).run = some oy → (r4b_T (x.1.1)).run = some oy) : SummOk Try.prog 93 (r4b_S.summ pre F) :=
  fn_tree te_ok E_r4inf_ok E_r4inf_any (f := 93) (fn := Try.f93) (c := codeOf Try.f93) (by kernel_rfl) (by kernel_rfl) (by kernel_rfl) (S := r4b_S) (k := 0) (by kernel_rfl) (fun R hR => lamOk_nil) (n := 1000) (sel := r4b_sel) (fun v o h => by cases h; rfl) (pre := pre) (F := F) (T := fun x => r4b_T (x.1.1)) (fun x Q => r4b_q x Q) hF
def r4b_pre (x : r4bX) : Bool := sortOk x.1.1
def r4b_F (x : r4bX) : OT r4b_S.Y := .ok ⟨r4b_o0, ((bS x.1.1, ()), ())⟩
theorem r4b_ok : SummOk Try.prog 93 (r4b_S.summ r4b_pre r4b_F) := r4b_main _ _ fun x oy hp ho => by
  rw [← ho]
  clear ho
  obtain ⟨⟨s, ⟨⟩⟩, ⟨⟩⟩ := x
  rcases sortOk_cases hp with h | h | h | h
  all_goals
    have h : s = _ := h
    subst h
    rfl
def r4b_summ : Summ := (r4b_S.summ r4b_pre r4b_F)
theorem r4b_known : SummOk Try.prog 93 r4b_summ := r4b_ok
theorem r4b_smono : MonoOk r4b_summ := fn_mono
def E_r4b : Env := envCons 93 r4b_summ E_r4inf
theorem E_r4b_ok : EnvOk Try.prog E_r4b := envOk_cons r4b_known E_r4inf_ok
theorem E_r4b_mono : EnvMono E_r4b := envMono_cons r4b_smono E_r4inf_mono
theorem E_r4b_any : AnyOk Try.prog te E_r4b := any_ok follows te_ok E_r4b_ok E_r4b_mono
def r4cube_S : FnSpec := ⟨[.val false .int, .val true .elem], [], true, 0, false⟩
abbrev r4cubeX : Type := ((Int) × (Elem) × Unit) × (Unit)
def r4cube_o0 : OutSh := ⟨[.val true .elem], [], false⟩
def r4cube_sel : SV → Option OutSh := fun _ => some r4cube_o0
def r4cube_T (a0 : Int) (a1 : Elem) : OT r4cube_S.Y :=
  let z0 : Nat := pS a0
  let z1 : Elem := mulP z0 a1 a1
  let z2 : Elem := mulP z0 a1 z1
  let z3 : Elem := bS a0
  (gd [r2mul_pre ((a0, a1, a1, ()), ()), r2mul_pre ((a0, a1, z1, ()), ()), r4b_pre ((a0, ()), ()), r2add_pre ((a0, z2, z3, ()), ())] (.ok ⟨r4cube_o0, ((addP z0 z2 z3, ()), ())⟩))
theorem r4cube_q (x : r4cubeX) (Q : r4cube_S.Y → Prop) : wpf te E_r4b lamNil 1000 Try.f63 (r4cube_S.inp.inj x).tm (r4cube_S.inp.inj x).hp (fnK r4cube_S r4cube_sel Q) (fun _ _ => False) = (r4cube_T (x.1.1) (x.1.2.1)).wpR Q := by kernel_rfl
theorem r4cube_main (pre : r4cubeX → Bool) (F : r4cubeX → OT r4cube_S.Y) (hF : ∀ (x : r4cubeX) oy, pre x = true → (F x).run = some oy → (r4cube_T (x.1.1) (x.1.2.1)).run = some oy) : SummOk Try.prog 63 (r4cube_S.summ pre F) :=
  fn_tree te_ok E_r4b_ok E_r4b_any (f := 63) (fn := Try.f63) (c := codeOf Try.f63) (by kernel_rfl) (by kernel_rfl) (by kernel_rfl) (S := r4cube_S) (k := 0) (by kernel_rfl) (fun R hR => lamOk_nil) (n := 1000) (sel := r4cube_sel) (fun v o h => by cases h; rfl) (pre := pre) (F := F) (T := fun x => r4cube_T (x.1.1) (x.1.2.1)) (fun x Q => r4cube_q x Q) hF
theorem mul_comm' (p : Nat) (a b : Elem) : mulP p a b = mulP p b a := by unfold mulP; rw [Nat.mul_comm]
def r4cube_pre (x : r4cubeX) : Bool := sortOk x.1.1
def r4cube_F (x : r4cubeX) : OT r4cube_S.Y := .ok ⟨r4cube_o0, ((cubeP (pS x.1.1) x.1.2.1 (bS x.1.1), ()), ())⟩
theorem r4cube_ok : SummOk Try.prog 63 (r4cube_S.summ r4cube_pre r4cube_F) := r4cube_main _ _ fun x oy hp ho => by
  rw [← ho]
  clear ho
  obtain ⟨⟨s, a, ⟨⟩⟩, ⟨⟩⟩ := x
  have hs : sortOk s = true := hp
  show _ = some (⟨r4cube_o0, ((cubeP (pS s) a (bS s), ()), ())⟩ : r4cube_S.Y)
  unfold cubeP
  rw [mul_comm' _ (mulP (pS s) a a) a]
  refine (gd_run ?_).trans rfl
  simp only [List.all_cons, List.all_nil, Bool.and_true, Bool.and_eq_true]
  exact ⟨hs, hs, hs, hs⟩
def r4cube_summ : Summ := (r4cube_S.summ r4cube_pre r4cube_F)
theorem r4cube_known : SummOk Try.prog 63 r4cube_summ := r4cube_ok
theorem r4cube_smono : MonoOk r4cube_summ := fn_mono
def E_r4cube : Env := envCons 63 r4cube_summ E_r4b
theorem E_r4cube_ok : EnvOk Try.prog E_r4cube := envOk_cons r4cube_known E_r4b_ok
theorem E_r4cube_mono : EnvMono E_r4cube := envMono_cons r4cube_smono E_r4b_mono
theorem E_r4cube_any : AnyOk Try.prog te E_r4cube := any_ok follows te_ok E_r4cube_ok E_r4cube_mono
def r4on_S : FnSpec := ⟨[.val false .int, .val true (.prod .elem (.prod .elem .bool))], [], true, 0, false⟩
abbrev r4onX : Type := ((Int) × ((Elem × (Elem × Bool))) × Unit) × (Unit)
def r4on_o0 : OutSh := ⟨[.val false .bool], [], false⟩
def r4on_sel : SV → Option OutSh := fun _ => some r4on_o0
def r4on_T (a0 : Int) (a1 : (Elem × (Elem × Bool))) : OT r4on_S.Y :=
  let z0 : Int × Elem × PUnit := (a0, a1.fst, ())
  let z1 : Nat := pS a0
  let z2 : Elem := ofP z1 a1.fst
  let z3 : Elem := ofP z1 a1.snd.fst
  let z4 : Elem := mulP z1 a1.snd.fst a1.snd.fst
  let z5 : Elem := cubeP z1 a1.fst (bS a0)
  (.br (decide (a0 < (0 : Int)))
  (.ok ⟨r4on_o0, ((false, ()), ())⟩)
  (.br (decide ((3 : Int) < a0))
    (.ok ⟨r4on_o0, ((false, ()), ())⟩)
    (.br (a1.snd.snd)
      (.ok ⟨r4on_o0, ((a1.fst.w0 == (0 : UInt64) && (a1.fst.w1 == (0 : UInt64) && (a1.fst.w2 == (0 : UInt64) && (a1.fst.w3 == (0 : UInt64) && true))) && (a1.snd.fst.w0 == (0 : UInt64) && (a1.snd.fst.w1 == (0 : UInt64) && (a1.snd.fst.w2 == (0 : UInt64) && (a1.snd.fst.w3 == (0 : UInt64) && true))) && (a1.snd.snd == true && true)), ()), ())⟩)
      (gd [r2ofn_pre (z0, ())] (.br (!(z2.w0 == a1.fst.w0 && (z2.w1 == a1.fst.w1 && (z2.w2 == a1.fst.w2 && (z2.w3 == a1.fst.w3 && true)))))
        (.ok ⟨r4on_o0, ((false, ()), ())⟩)
        (gd [r2ofn_pre ((a0, a1.snd.fst, ()), ())] (.br (!(z3.w0 == a1.snd.fst.w0 && (z3.w1 == a1.snd.fst.w1 && (z3.w2 == a1.snd.fst.w2 && (z3.w3 == a1.snd.fst.w3 && true)))))
          (.ok ⟨r4on_o0, ((false, ()), ())⟩)
          (gd [r2mul_pre ((a0, a1.snd.fst, a1.snd.fst, ()), ()), r4cube_pre (z0, ())] (.ok ⟨r4on_o0, ((z4.w0 == z5.w0 && (z4.w1 == z5.w1 && (z4.w2 == z5.w2 && (z4.w3 == z5.w3 && true))), ()), ())⟩)))))))))
theorem r4on_q (x : r4onX) (Q : r4on_S.Y → Prop) : wpf te E_r4cube lamNil 1000 Try.f22 (r4on_S.inp.inj x).tm (r4on_S.inp.inj x).hp (fnK r4on_S r4on_sel Q) (fun _ _ => False) = (r4on_T (x.1.1) (x.1.2.1)).wpR Q := by kernel_rfl
theorem r4on_main (pre : r4onX → Bool) (F : r4onX → OT r4on_S.Y) (hF : ∀ (x : r4onX) oy, pre x = true → (F x).run = some oy → (r4on_T (x.1.1) (x.1.2.1)).run = some oy) : SummOk Try.prog 22 (r4on_S.summ pre F) :=
  fn_tree te_ok E_r4cube_ok E_r4cube_any (f := 22) (fn := Try.f22) (c := codeOf Try.f22) (by kernel_rfl) (by kernel_rfl) (by kernel_rfl) (S := r4on_S) (k := 0) (by kernel_rfl) (fun R hR => lamOk_nil) (n := 1000) (sel := r4on_sel) (fun v o h => by cases h; rfl) (pre := pre) (F := F) (T := fun x => r4on_T (x.1.1) (x.1.2.1)) (fun x Q => r4on_q x Q) hF
theorem ofP_same {s : Int} (hs : sortOk s = true) (x : Elem) : eqE (ofP (pS s) x) x = Nat.blt x.nat (pS s) := by
  have hp := pS_pos hs
  have hlt := Nat.mod_lt x.nat hp.1
  rw [eqE_nat, show (ofP (pS s) x).nat = x.nat % pS s from rem_nat hp]
  rcases (Bool.eq_false_or_eq_true (Nat.blt x.nat (pS s))).symm with h | h
  · rw [h]
    have hle := not_blt h
    cases hb : Nat.beq (x.nat % pS s) x.nat
    · rfl
    · have := Nat.eq_of_beq_eq_true hb
      omega
  · rw [h, Nat.mod_eq_of_lt (blt_of h)]
    exact Nat.beq_refl _
def r4on_pre (_ : r4onX) : Bool := true
def r4on_F (x : r4onX) : OT r4on_S.Y := .ok ⟨r4on_o0, ((onB x.1.1 x.1.2.1, ()), ())⟩
theorem r4on_ok : SummOk Try.prog 22 (r4on_S.summ r4on_pre r4on_F) := r4on_main _ _ fun x oy _ ho => by
  rw [← ho]
  clear ho
  obtain ⟨⟨c, ⟨X, Y, i⟩, ⟨⟩⟩, ⟨⟩⟩ := x
  show _ = some (⟨r4on_o0, ((onB c (X, Y, i), ()), ())⟩ : r4on_S.Y)
  rcases (Bool.eq_false_or_eq_true (sortOk c)).symm with hs | hs
  · have e : onB c (X, Y, i) = false := by unfold onB; rw [hs]; rfl
    rw [e]
    by_cases h0 : c < 0
    · exact OT.run_t (decide_eq_true h0)
    · refine (OT.run_f (decide_eq_false h0)).trans (OT.run_t (decide_eq_true ?_))
      show (3 : Int) < c
      simp only [sortOk, Bool.and_eq_false_iff, decide_eq_false_iff_not] at hs
      omega
  · have hc : 0 ≤ c ∧ c < 4 := by simpa [sortOk] using hs
    refine (OT.run_f (decide_eq_false (by show ¬ c < 0; omega))).trans ((OT.run_f (decide_eq_false (by show ¬ (3 : Int) < c; omega))).trans ?_)
    have hx := ofP_same hs X
    have hy := ofP_same hs Y
    have gd1 : ∀ (a : Elem) (z : OT r4on_S.Y), (gd [r2ofn_pre ((c, a, ()), ())] z).run = z.run := fun a z => gd_run (by simp only [List.all_cons, List.all_nil, Bool.and_true]; exact hs)
    cases i
    · refine (OT.run_f rfl).trans ((gd1 X _).trans ?_)
      rcases (Bool.eq_false_or_eq_true (Nat.blt X.nat (pS c))).symm with h1 | h1
      · have e : onB c (X, Y, false) = false := by unfold onB; rw [hs, h1]; rfl
        rw [e]
        rw [h1] at hx
        exact OT.run_t (b := !eqE (ofP (pS c) X) X) (by rw [hx]; rfl)
      · have hx1 := hx
        rw [h1] at hx1
        refine (OT.run_f (b := !eqE (ofP (pS c) X) X) (by rw [hx1]; rfl)).trans ((gd1 Y _).trans ?_)
        rcases (Bool.eq_false_or_eq_true (Nat.blt Y.nat (pS c))).symm with h2 | h2
        · have e : onB c (X, Y, false) = false := by unfold onB; rw [hs, h1, h2]; rfl
          rw [e]
          rw [h2] at hy
          exact OT.run_t (b := !eqE (ofP (pS c) Y) Y) (by rw [hy]; rfl)
        · have hy1 := hy
          rw [h2] at hy1
          have e : onB c (X, Y, false) = eqE (mulP (pS c) Y Y) (cubeP (pS c) X (bS c)) := by unfold onB; rw [hs, h1, h2]; rfl
          rw [e]
          refine (OT.run_f (b := !eqE (ofP (pS c) Y) Y) (by rw [hy1]; rfl)).trans ((gd_run ?_).trans rfl)
          simp only [List.all_cons, List.all_nil, Bool.and_true, Bool.and_eq_true]
          exact ⟨hs, hs⟩
    · have e : onB c (X, Y, true) = (zeroE X && (zeroE Y && true)) := by unfold onB; rw [hs]; rfl
      rw [e]
      exact OT.run_t rfl
def r4on_summ : Summ := (r4on_S.summ r4on_pre r4on_F)
theorem r4on_known : SummOk Try.prog 22 r4on_summ := r4on_ok
theorem r4on_smono : MonoOk r4on_summ := fn_mono
def E_r4on : Env := envCons 22 r4on_summ E_r4cube
theorem E_r4on_ok : EnvOk Try.prog E_r4on := envOk_cons r4on_known E_r4cube_ok
theorem E_r4on_mono : EnvMono E_r4on := envMono_cons r4on_smono E_r4cube_mono
theorem E_r4on_any : AnyOk Try.prog te E_r4on := any_ok follows te_ok E_r4on_ok E_r4on_mono
def r4sum_S : FnSpec := ⟨[.val false .int, .val true (.prod .elem (.prod .elem .bool)), .val true (.prod .elem (.prod .elem .bool))], [], true, 0, false⟩
abbrev r4sumX : Type := ((Int) × ((Elem × (Elem × Bool))) × ((Elem × (Elem × Bool))) × Unit) × (Unit)
def r4sum_o0 : OutSh := ⟨[.val true (.prod .elem (.prod .elem .bool))], [], false⟩
def r4sum_sel : SV → Option OutSh := fun _ => some r4sum_o0
def r4sum_T (a0 : Int) (a1 : (Elem × (Elem × Bool))) (a2 : (Elem × (Elem × Bool))) : OT r4sum_S.Y :=
  let z0 : Elem × PUnit := (a1.snd.fst, ())
  let z1 : Elem × PUnit := (a1.fst, ())
  let z2 : Elem := { w0 := 0, w1 := 0, w2 := 0, w3 := 0 }
  let z3 : Elem := { w0 := 3, w1 := 0, w2 := 0, w3 := 0 }
  let z4 : Nat := pS a0
  let z5 : Elem := mulP z4 a1.fst a1.fst
  let z6 : Elem := mulP z4 z3 z5
  let z7 : Elem := addP z4 a1.snd.fst a1.snd.fst
  let z8 : Elem := byP z4 z6 z7
  let z9 : Elem := mulP z4 z8 z8
  let z10 : Elem := subP z4 z9 a1.fst
  let z11 : Elem × PUnit := (a2.fst, ())
  let z12 : Elem := subP z4 z10 a2.fst
  let z13 : Elem := subP z4 a1.fst z12
  let z14 : Elem := mulP z4 z8 z13
  let z15 : Elem := subP z4 a2.snd.fst a1.snd.fst
  let z16 : Elem := subP z4 a2.fst a1.fst
  let z17 : Elem := byP z4 z15 z16
  let z18 : Elem := mulP z4 z17 z17
  let z19 : Elem := subP z4 z18 a1.fst
  let z20 : Elem := subP z4 z19 a2.fst
  let z21 : Elem := subP z4 a1.fst z20
  let z22 : Elem := mulP z4 z17 z21
  (.br (a1.snd.snd)
  (.ok ⟨r4sum_o0, ((a2, ()), ())⟩)
  (.br (a2.snd.snd)
    (.ok ⟨r4sum_o0, ((a1, ()), ())⟩)
    (gd [r2sub_pre ((a0, a2.snd.fst, z0), ()), r2sub_pre ((a0, a2.fst, z1), ())] (.br (a1.fst.w0 == a2.fst.w0 && (a1.fst.w1 == a2.fst.w1 && (a1.fst.w2 == a2.fst.w2 && (a1.fst.w3 == a2.fst.w3 && true))))
      (.br (!(a1.snd.fst.w0 == a2.snd.fst.w0 && (a1.snd.fst.w1 == a2.snd.fst.w1 && (a1.snd.fst.w2 == a2.snd.fst.w2 && (a1.snd.fst.w3 == a2.snd.fst.w3 && true)))))
        (.ok ⟨r4sum_o0, (((z2, z2, true), ()), ())⟩)
        (gd [r2mul_pre ((a0, a1.fst, z1), ()), r2mul_pre ((a0, z3, z5, ()), ()), r2add_pre ((a0, a1.snd.fst, z0), ()), r2by_pre ((a0, z6, z7, ()), ()), r2mul_pre ((a0, z8, z8, ()), ()), r2sub_pre ((a0, z9, z1), ()), r2sub_pre ((a0, z10, z11), ()), r2sub_pre ((a0, a1.fst, z12, ()), ()), r2mul_pre ((a0, z8, z13, ()), ()), r2sub_pre ((a0, z14, z0), ())] (.ok ⟨r4sum_o0, (((z12, subP z4 z14 a1.snd.fst, false), ()), ())⟩)))
      (gd [r2by_pre ((a0, z15, z16, ()), ()), r2mul_pre ((a0, z17, z17, ()), ()), r2sub_pre ((a0, z18, z1), ()), r2sub_pre ((a0, z19, z11), ()), r2sub_pre ((a0, a1.fst, z20, ()), ()), r2mul_pre ((a0, z17, z21, ()), ()), r2sub_pre ((a0, z22, z0), ())] (.ok ⟨r4sum_o0, (((z20, subP z4 z22 a1.snd.fst, false), ()), ())⟩))))))
theorem r4sum_q (x : r4sumX) (Q : r4sum_S.Y → Prop) : wpf te E_r4on lamNil 1000 Try.f55 (r4sum_S.inp.inj x).tm (r4sum_S.inp.inj x).hp (fnK r4sum_S r4sum_sel Q) (fun _ _ => False) = (r4sum_T (x.1.1) (x.1.2.1) (x.1.2.2.1)).wpR Q := by kernel_rfl
theorem r4sum_main (pre : r4sumX → Bool) (F : r4sumX → OT r4sum_S.Y) (hF : ∀ (x : r4sumX) oy, pre x = true → (F x).run = some oy → (r4sum_T (x.1.1) (x.1.2.1) (x.1.2.2.1)).run = some oy) : SummOk Try.prog 55 (r4sum_S.summ pre F) :=
  fn_tree te_ok E_r4on_ok E_r4on_any (f := 55) (fn := Try.f55) (c := codeOf Try.f55) (by kernel_rfl) (by kernel_rfl) (by kernel_rfl) (S := r4sum_S) (k := 0) (by kernel_rfl) (fun R hR => lamOk_nil) (n := 1000) (sel := r4sum_sel) (fun v o h => by cases h; rfl) (pre := pre) (F := F) (T := fun x => r4sum_T (x.1.1) (x.1.2.1) (x.1.2.2.1)) (fun x Q => r4sum_q x Q) hF
def lineP (p : Nat) (X Y X2 s : Elem) : Pt := (subP p (subP p (mulP p s s) X) X2, subP p (mulP p s (subP p X (subP p (subP p (mulP p s s) X) X2))) Y, false)
def sumPt (p : Nat) (P Q : Pt) : Pt := cond P.2.2 Q (cond Q.2.2 P (cond (eqE P.1 Q.1)
  (cond (eqE P.2.1 Q.2.1) (lineP p P.1 P.2.1 Q.1 (byP p (mulP p ⟨3, 0, 0, 0⟩ (mulP p P.1 P.1)) (addP p P.2.1 P.2.1))) inftyP)
  (lineP p P.1 P.2.1 Q.1 (byP p (subP p Q.2.1 P.2.1) (subP p Q.1 P.1)))))
def r4sum_pre (x : r4sumX) : Bool := sortOk x.1.1
def r4sum_F (x : r4sumX) : OT r4sum_S.Y := .ok ⟨r4sum_o0, ((sumPt (pS x.1.1) x.1.2.1 x.1.2.2.1, ()), ())⟩
theorem r4sum_ok : SummOk Try.prog 55 (r4sum_S.summ r4sum_pre r4sum_F) := r4sum_main _ _ fun x oy hp ho => by
  rw [← ho]
  clear ho
  obtain ⟨⟨c, ⟨X, Y, i⟩, ⟨X2, Y2, i2⟩, ⟨⟩⟩, ⟨⟩⟩ := x
  have hs : sortOk c = true := hp
  show _ = (OT.ok ⟨r4sum_o0, ((sumPt (pS c) (X, Y, i) (X2, Y2, i2), ()), ())⟩ : OT r4sum_S.Y).run
  cases i
  · refine (OT.run_f rfl).trans ?_
    cases i2
    · refine (OT.run_f rfl).trans ((gd_run ?_).trans ?_)
      · simp only [List.all_cons, List.all_nil, Bool.and_true, Bool.and_eq_true]
        exact ⟨hs, hs⟩
      · rcases (Bool.eq_false_or_eq_true (eqE X X2)).symm with h | h
        · have e : sumPt (pS c) (X, Y, false) (X2, Y2, false) = lineP (pS c) X Y X2 (byP (pS c) (subP (pS c) Y2 Y) (subP (pS c) X2 X)) := by unfold sumPt; simp only [cond_false, h]
          rw [e]
          refine (OT.run_f h).trans ((gd_run ?_).trans rfl)
          simp only [List.all_cons, List.all_nil, Bool.and_true, Bool.and_eq_true]
          exact ⟨hs, hs, hs, hs, hs, hs, hs⟩
        · refine (OT.run_t h).trans ?_
          rcases (Bool.eq_false_or_eq_true (eqE Y Y2)).symm with h2 | h2
          · have e : sumPt (pS c) (X, Y, false) (X2, Y2, false) = inftyP := by unfold sumPt; simp only [cond_false, cond_true, h, h2]
            rw [e]
            exact OT.run_t (b := !eqE Y Y2) (by rw [h2]; rfl)
          · have e : sumPt (pS c) (X, Y, false) (X2, Y2, false) = lineP (pS c) X Y X2 (byP (pS c) (mulP (pS c) ⟨3, 0, 0, 0⟩ (mulP (pS c) X X)) (addP (pS c) Y Y)) := by unfold sumPt; simp only [cond_false, cond_true, h, h2]
            rw [e]
            refine (OT.run_f (b := !eqE Y Y2) (by rw [h2]; rfl)).trans ((gd_run ?_).trans rfl)
            simp only [List.all_cons, List.all_nil, Bool.and_true, Bool.and_eq_true]
            exact ⟨hs, hs, hs, hs, hs, hs, hs, hs, hs, hs⟩
    · have e : sumPt (pS c) (X, Y, false) (X2, Y2, true) = (X, Y, false) := by unfold sumPt; simp only [cond_false, cond_true]
      rw [e]
      exact OT.run_t rfl
  · have e : sumPt (pS c) (X, Y, true) (X2, Y2, i2) = (X2, Y2, i2) := by unfold sumPt; simp only [cond_true]
    rw [e]
    exact OT.run_t rfl
def r4sum_summ : Summ := (r4sum_S.summ r4sum_pre r4sum_F)
theorem r4sum_known : SummOk Try.prog 55 r4sum_summ := r4sum_ok
theorem r4sum_smono : MonoOk r4sum_summ := fn_mono
def E_r4sum : Env := envCons 55 r4sum_summ E_r4on
theorem E_r4sum_ok : EnvOk Try.prog E_r4sum := envOk_cons r4sum_known E_r4on_ok
theorem E_r4sum_mono : EnvMono E_r4sum := envMono_cons r4sum_smono E_r4on_mono
theorem E_r4sum_any : AnyOk Try.prog te E_r4sum := any_ok follows te_ok E_r4sum_ok E_r4sum_mono
def r4add_S : FnSpec := ⟨[.val false .int, .val true (.prod .elem (.prod .elem .bool)), .val true (.prod .elem (.prod .elem .bool))], [], true, 0, false⟩
abbrev r4addX : Type := ((Int) × ((Elem × (Elem × Bool))) × ((Elem × (Elem × Bool))) × Unit) × (Unit)
def r4add_o0 : OutSh := ⟨[.val true (.prod .elem (.prod .elem .bool))], [], false⟩
def r4add_sel : SV → Option OutSh := fun _ => some r4add_o0
def r4add_T (a0 : Int) (a1 : (Elem × (Elem × Bool))) (a2 : (Elem × (Elem × Bool))) : OT r4add_S.Y :=
  let z0 : Elem := { w0 := 0, w1 := 0, w2 := 0, w3 := 0 }
  let z1 : Elem × Elem × Bool := (z0, z0, true)
  (.br (!onB a0 a1)
  (.ok ⟨r4add_o0, ((z1, ()), ())⟩)
  (.br (!onB a0 a2)
    (.ok ⟨r4add_o0, ((z1, ()), ())⟩)
    (gd [r4sum_pre ((a0, a1, a2, ()), ())] (.ok ⟨r4add_o0, ((sumPt (pS a0) a1 a2, ()), ())⟩))))
theorem r4add_q (x : r4addX) (Q : r4add_S.Y → Prop) : wpf te E_r4sum lamNil 1000 Try.f26 (r4add_S.inp.inj x).tm (r4add_S.inp.inj x).hp (fnK r4add_S r4add_sel Q) (fun _ _ => False) = (r4add_T (x.1.1) (x.1.2.1) (x.1.2.2.1)).wpR Q := by kernel_rfl
theorem r4add_main (pre : r4addX → Bool) (F : r4addX → OT r4add_S.Y) (hF : ∀ (x : r4addX) oy, pre x = true → (F x).run = some oy → (r4add_T (x.1.1) (x.1.2.1) (x.1.2.2.1)).run = some oy) : SummOk Try.prog 26 (r4add_S.summ pre F) :=
  fn_tree te_ok E_r4sum_ok E_r4sum_any (f := 26) (fn := Try.f26) (c := codeOf Try.f26) (by kernel_rfl) (by kernel_rfl) (by kernel_rfl) (S := r4add_S) (k := 0) (by kernel_rfl) (fun R hR => lamOk_nil) (n := 1000) (sel := r4add_sel) (fun v o h => by cases h; rfl) (pre := pre) (F := F) (T := fun x => r4add_T (x.1.1) (x.1.2.1) (x.1.2.2.1)) (fun x Q => r4add_q x Q) hF
def sumOn (c : Int) (P Q : Pt) : Pt := cond (onB c P) (cond (onB c Q) (sumPt (pS c) P Q) inftyP) inftyP
def r4add_pre (_ : r4addX) : Bool := true
def r4add_F (x : r4addX) : OT r4add_S.Y := .ok ⟨r4add_o0, ((sumOn x.1.1 x.1.2.1 x.1.2.2.1, ()), ())⟩
theorem r4add_ok : SummOk Try.prog 26 (r4add_S.summ r4add_pre r4add_F) := r4add_main _ _ fun x oy _ ho => by
  rw [← ho]
  clear ho
  obtain ⟨⟨c, P, Q, ⟨⟩⟩, ⟨⟩⟩ := x
  show _ = (OT.ok ⟨r4add_o0, ((sumOn c P Q, ()), ())⟩ : OT r4add_S.Y).run
  rcases (Bool.eq_false_or_eq_true (onB c P)).symm with h1 | h1
  · have e : sumOn c P Q = inftyP := by unfold sumOn; rw [h1]; rfl
    rw [e]
    exact OT.run_t (b := !onB c P) (by rw [h1]; rfl)
  · have hs := onB_sort h1
    refine (OT.run_f (b := !onB c P) (by rw [h1]; rfl)).trans ?_
    rcases (Bool.eq_false_or_eq_true (onB c Q)).symm with h2 | h2
    · have e : sumOn c P Q = inftyP := by unfold sumOn; rw [h1, h2]; rfl
      rw [e]
      exact OT.run_t (b := !onB c Q) (by rw [h2]; rfl)
    · have e : sumOn c P Q = sumPt (pS c) P Q := by unfold sumOn; rw [h1, h2]; rfl
      rw [e]
      refine (OT.run_f (b := !onB c Q) (by rw [h2]; rfl)).trans ((gd_run ?_).trans rfl)
      simp only [List.all_cons, List.all_nil, Bool.and_true]
      exact hs
def r4add_summ : Summ := (r4add_S.summ r4add_pre r4add_F)
theorem r4add_known : SummOk Try.prog 26 r4add_summ := r4add_ok
theorem r4add_smono : MonoOk r4add_summ := fn_mono
def E_r4add : Env := envCons 26 r4add_summ E_r4sum
theorem E_r4add_ok : EnvOk Try.prog E_r4add := envOk_cons r4add_known E_r4sum_ok
theorem E_r4add_mono : EnvMono E_r4add := envMono_cons r4add_smono E_r4sum_mono
theorem E_r4add_any : AnyOk Try.prog te E_r4add := any_ok follows te_ok E_r4add_ok E_r4add_mono
def r4mul_S : FnSpec := ⟨[.val false .int, .val true .elem, .val true (.prod .elem (.prod .elem .bool))], [], true, 0, false⟩
abbrev r4mulX : Type := ((Int) × (Elem) × ((Elem × (Elem × Bool))) × Unit) × (Unit)
def r4mul_s0 : Shape := ⟨60, [(0, .val false .int), (4, .ptr 0 0 0), (5, .ptr 1 0 0), (6, .ptr 2 0 0), (7, .ptr 3 0 0), (8, .val false .int)], [(0, .row .u64), (1, .cells [.val false .u64, .val false .u64, .val false .u64, .val false .u64, .val false .u64, .val false .u64, .val false .u64, .val false .u64, .val false .bool]), (2, .cells [.val false .u64, .val false .u64, .val false .u64, .val false .u64, .val false .u64, .val false .u64, .val false .u64, .val false .u64, .val false .bool]), (3, .cells [.val false .u64, .val false .u64, .val false .u64, .val false .u64, .val false .u64, .val false .u64, .val false .u64, .val false .u64, .val false .bool])], 0, true⟩
abbrev r4mul_s0X : Type := ((Int) × (Unit) × (Unit) × (Unit) × (Unit) × (Int) × Unit) × ((List (UInt64)) × ((UInt64) × (UInt64) × (UInt64) × (UInt64) × (UInt64) × (UInt64) × (UInt64) × (UInt64) × (Bool) × Unit) × ((UInt64) × (UInt64) × (UInt64) × (UInt64) × (UInt64) × (UInt64) × (UInt64) × (UInt64) × (Bool) × Unit) × ((UInt64) × (UInt64) × (UInt64) × (UInt64) × (UInt64) × (UInt64) × (UInt64) × (UInt64) × (Bool) × Unit) × Unit)
def r4mul_e0_0 : Shape := ⟨60, [(0, .val false .int), (4, .ptr 0 0 0), (5, .ptr 1 0 0), (6, .ptr 2 0 0), (7, .ptr 3 0 0), (8, .val false .int)], [(0, .row .u64), (1, .cells [.val false .u64, .val false .u64, .val false .u64, .val false .u64, .val false .u64, .val false .u64, .val false .u64, .val false .u64, .val false .bool]), (2, .cells [.val false .u64, .val false .u64, .val false .u64, .val false .u64, .val false .u64, .val false .u64, .val false .u64, .val false .u64, .val false .bool]), (3, .cells [.val false .u64, .val false .u64, .val false .u64, .val false .u64, .val false .u64, .val false .u64, .val false .u64, .val false .u64, .val false .bool])], 0, true⟩
abbrev r4mul_e0_0X : Type := ((Int) × (Unit) × (Unit) × (Unit) × (Unit) × (Int) × Unit) × ((List (UInt64)) × ((UInt64) × (UInt64) × (UInt64) × (UInt64) × (UInt64) × (UInt64) × (UInt64) × (UInt64) × (Bool) × Unit) × ((UInt64) × (UInt64) × (UInt64) × (UInt64) × (UInt64) × (UInt64) × (UInt64) × (UInt64) × (Bool) × Unit) × ((UInt64) × (UInt64) × (UInt64) × (UInt64) × (UInt64) × (UInt64) × (UInt64) × (UInt64) × (Bool) × Unit) × Unit)
def r4mul_x0 : SE → Option Shape := xsMk [(0, r4mul_e0_0)] none
def r4mul_T0 (a0 : Int) (a8 : Int) (c0 : List (UInt64)) (c1_0 : UInt64) (c1_1 : UInt64) (c1_2 : UInt64) (c1_3 : UInt64) (c1_4 : UInt64) (c1_5 : UInt64) (c1_6 : UInt64) (c1_7 : UInt64) (c1_8 : Bool) (c2_0 : UInt64) (c2_1 : UInt64) (c2_2 : UInt64) (c2_3 : UInt64) (c2_4 : UInt64) (c2_5 : UInt64) (c2_6 : UInt64) (c2_7 : UInt64) (c2_8 : Bool) (c3_0 : UInt64) (c3_1 : UInt64) (c3_2 : UInt64) (c3_3 : UInt64) (c3_4 : UInt64) (c3_5 : UInt64) (c3_6 : UInt64) (c3_7 : UInt64) (c3_8 : Bool) : OT (Sum r4mul_s0X LEnd) :=
  let z0 : Int := Int.tdiv a8 (64 : Int)
  (.br (decide ((0 : Int) ≤ a8))
  (gd [true && inR z0, inB z0 4, decide (Int.toNat z0 + 0 < List.length c0)] (.br (shr64 (List.getD c0 (Int.toNat z0 + 0) (0 : UInt64)) (↑(UInt64.toNat (i2u (Int.tmod a8 (64 : Int)))) : Int) &&& (1 : UInt64) == (0 : UInt64))
    (gd [inR (a8 - (1 : Int))] (.ok (.inl ((a0, ((), ((), ((), ((), (a8 - (1 : Int), ())))))), (c0, ((c1_0, (c1_1, (c1_2, (c1_3, (c1_4, (c1_5, (c1_6, (c1_7, (c1_8, ()))))))))), ((c2_0, (c2_1, (c2_2, (c2_3, (c2_4, (c2_5, (c2_6, (c2_7, (c2_8, ()))))))))), ((c3_0, (c3_1, (c3_2, (c3_3, (c3_4, (c3_5, (c3_6, (c3_7, (c3_8, ()))))))))), ()))))))))
    (.ok (.inr ⟨(.exit 0, r4mul_e0_0), ((a0, ((), ((), ((), ((), (a8, ())))))), (c0, ((c1_0, (c1_1, (c1_2, (c1_3, (c1_4, (c1_5, (c1_6, (c1_7, (c1_8, ()))))))))), ((c2_0, (c2_1, (c2_2, (c2_3, (c2_4, (c2_5, (c2_6, (c2_7, (c2_8, ()))))))))), ((c3_0, (c3_1, (c3_2, (c3_3, (c3_4, (c3_5, (c3_6, (c3_7, (c3_8, ()))))))))), ())))))⟩))))
  (.ok (.inr ⟨(.exit 0, r4mul_e0_0), ((a0, ((), ((), ((), ((), (a8, ())))))), (c0, ((c1_0, (c1_1, (c1_2, (c1_3, (c1_4, (c1_5, (c1_6, (c1_7, (c1_8, ()))))))))), ((c2_0, (c2_1, (c2_2, (c2_3, (c2_4, (c2_5, (c2_6, (c2_7, (c2_8, ()))))))))), ((c3_0, (c3_1, (c3_2, (c3_3, (c3_4, (c3_5, (c3_6, (c3_7, (c3_8, ()))))))))), ())))))⟩)))
def r4mul_U0 (s : r4mul_s0X) : OT (Sum r4mul_s0X LEnd) := r4mul_T0 (s.1.1) (s.1.2.2.2.2.2.1) (s.2.1) (s.2.2.1.1) (s.2.2.1.2.1) (s.2.2.1.2.2.1) (s.2.2.1.2.2.2.1) (s.2.2.1.2.2.2.2.1) (s.2.2.1.2.2.2.2.2.1) (s.2.2.1.2.2.2.2.2.2.1) (s.2.2.1.2.2.2.2.2.2.2.1) (s.2.2.1.2.2.2.2.2.2.2.2.1) (s.2.2.2.1.1) (s.2.2.2.1.2.1) (s.2.2.2.1.2.2.1) (s.2.2.2.1.2.2.2.1) (s.2.2.2.1.2.2.2.2.1) (s.2.2.2.1.2.2.2.2.2.1) (s.2.2.2.1.2.2.2.2.2.2.1) (s.2.2.2.1.2.2.2.2.2.2.2.1) (s.2.2.2.1.2.2.2.2.2.2.2.2.1) (s.2.2.2.2.1.1) (s.2.2.2.2.1.2.1) (s.2.2.2.2.1.2.2.1) (s.2.2.2.2.1.2.2.2.1) (s.2.2.2.2.1.2.2.2.2.1) (s.2.2.2.2.1.2.2.2.2.2.1) (s.2.2.2.2.1.2.2.2.2.2.2.1) (s.2.2.2.2.1.2.2.2.2.2.2.2.1) (s.2.2.2.2.1.2.2.2.2.2.2.2.2.1)
theorem r4mul_q0 (s : r4mul_s0X) (Q : Sum r4mul_s0X LEnd → Prop) : wps te E_r4add lamNil 1000 (loopOf (codeOf Try.f16) 0) (r4mul_s0.inj s) (stepK r4mul_s0 r4mul_x0 (Q : Sum r4mul_s0.T LEnd → Prop)) = (r4mul_U0 s).wpR Q := by kernel_rfl
def r4mul_f0 (g0_0 : r4mul_s0X → r4mul_e0_0X) (s : r4mul_s0X) : OT LEnd := (.ok ⟨(.exit 0, r4mul_e0_0), g0_0 s⟩)
def r4mul_s2 : Shape := ⟨60, [(0, .val false .int), (4, .ptr 0 0 0), (5, .ptr 1 0 0), (6, .ptr 2 0 0), (7, .ptr 3 0 0), (9, .val false .int)], [(0, .row .u64), (1, .cells [.val false .u64, .val false .u64, .val false .u64, .val false .u64, .val false .u64, .val false .u64, .val false .u64, .val false .u64, .val false .bool]), (2, .cells [.val false .u64, .val false .u64, .val false .u64, .val false .u64, .val false .u64, .val false .u64, .val false .u64, .val false .u64, .val false .bool]), (3, .cells [.val false .u64, .val false .u64, .val false .u64, .val false .u64, .val false .u64, .val false .u64, .val false .u64, .val false .u64, .val false .bool])], 0, true⟩
abbrev r4mul_s2X : Type := ((Int) × (Unit) × (Unit) × (Unit) × (Unit) × (Int) × Unit) × ((List (UInt64)) × ((UInt64) × (UInt64) × (UInt64) × (UInt64) × (UInt64) × (UInt64) × (UInt64) × (UInt64) × (Bool) × Unit) × ((UInt64) × (UInt64) × (UInt64) × (UInt64) × (UInt64) × (UInt64) × (UInt64) × (UInt64) × (Bool) × Unit) × ((UInt64) × (UInt64) × (UInt64) × (UInt64) × (UInt64) × (UInt64) × (UInt64) × (UInt64) × (Bool) × Unit) × Unit)
def r4mul_e2_2 : Shape := ⟨60, [(6, .ptr 0 0 0), (7, .ptr 1 0 0)], [(0, .cells [.val false .u64, .val false .u64, .val false .u64, .val false .u64, .val false .u64, .val false .u64, .val false .u64, .val false .u64, .val false .bool]), (1, .cells [.val false .u64, .val false .u64, .val false .u64, .val false .u64, .val false .u64, .val false .u64, .val false .u64, .val false .u64, .val false .bool])], 0, true⟩
abbrev r4mul_e2_2X : Type := ((Unit) × (Unit) × Unit) × (((UInt64) × (UInt64) × (UInt64) × (UInt64) × (UInt64) × (UInt64) × (UInt64) × (UInt64) × (Bool) × Unit) × ((UInt64) × (UInt64) × (UInt64) × (UInt64) × (UInt64) × (UInt64) × (UInt64) × (UInt64) × (Bool) × Unit) × Unit)
def r4mul_x2 : SE → Option Shape := xsMk [(2, r4mul_e2_2)] none
def r4mul_T2 (a0 : Int) (a9 : Int) (c0 : List (UInt64)) (c1_0 : UInt64) (c1_1 : UInt64) (c1_2 : UInt64) (c1_3 : UInt64) (c1_4 : UInt64) (c1_5 : UInt64) (c1_6 : UInt64) (c1_7 : UInt64) (c1_8 : Bool) (c2_0 : UInt64) (c2_1 : UInt64) (c2_2 : UInt64) (c2_3 : UInt64) (c2_4 : UInt64) (c2_5 : UInt64) (c2_6 : UInt64) (c2_7 : UInt64) (c2_8 : Bool) (c3_0 : UInt64) (c3_1 : UInt64) (c3_2 : UInt64) (c3_3 : UInt64) (c3_4 : UInt64) (c3_5 : UInt64) (c3_6 : UInt64) (c3_7 : UInt64) (c3_8 : Bool) : OT (Sum r4mul_s2X LEnd) :=
  let z0 : Elem × Elem × Bool := ({ w0 := c3_0, w1 := c3_1, w2 := c3_2, w3 := c3_3 }, { w0 := c3_4, w1 := c3_5, w2 := c3_6, w3 := c3_7 }, c3_8)
  let z1 : Int := Int.tdiv a9 (64 : Int)
  let z2 : Nat := pS a0
  let z3 : Elem × Elem × Bool := sumPt z2 z0 z0
  let z4 : Elem × Elem × Bool := ({ w0 := c1_0, w1 := c1_1, w2 := c1_2, w3 := c1_3 }, { w0 := c1_4, w1 := c1_5, w2 := c1_6, w3 := c1_7 }, c1_8)
  let z5 : Bool := inR (a9 - (1 : Int))
  let z6 : Elem × Elem × Bool := sumPt z2 z3 z4
  let z7 := z6.fst
  let z8 := z6.snd
  let z9 := z8.fst
  let z10 := z3.fst
  let z11 := z3.snd
  let z12 := z11.fst
  (.br (decide ((0 : Int) ≤ a9))
  (gd [r4sum_pre ((a0, z0, z0, ()), ()), true && inR z1, inB z1 4, decide (Int.toNat z1 + 0 < List.length c0)] (.br (shr64 (List.getD c0 (Int.toNat z1 + 0) (0 : UInt64)) (↑(UInt64.toNat (i2u (Int.tmod a9 (64 : Int)))) : Int) &&& (1 : UInt64) == (1 : UInt64))
    (gd [r4sum_pre ((a0, z3, z4, ()), ()), z5] (.ok (.inl ((a0, ((), ((), ((), ((), (a9 - (1 : Int), ())))))), (c0, ((c1_0, (c1_1, (c1_2, (c1_3, (c1_4, (c1_5, (c1_6, (c1_7, (c1_8, ()))))))))), ((c2_0, (c2_1, (c2_2, (c2_3, (c2_4, (c2_5, (c2_6, (c2_7, (c2_8, ()))))))))), ((z7.w0, (z7.w1, (z7.w2, (z7.w3, (z9.w0, (z9.w1, (z9.w2, (z9.w3, (z8.snd, ()))))))))), ()))))))))
    (gd [z5] (.ok (.inl ((a0, ((), ((), ((), ((), (a9 - (1 : Int), ())))))), (c0, ((c1_0, (c1_1, (c1_2, (c1_3, (c1_4, (c1_5, (c1_6, (c1_7, (c1_8, ()))))))))), ((c2_0, (c2_1, (c2_2, (c2_3, (c2_4, (c2_5, (c2_6, (c2_7, (c2_8, ()))))))))), ((z10.w0, (z10.w1, (z10.w2, (z10.w3, (z12.w0, (z12.w1, (z12.w2, (z12.w3, (z11.snd, ()))))))))), ()))))))))))
  (.ok (.inr ⟨(.exit 2, r4mul_e2_2), (((), ((), ())), ((c2_0, (c2_1, (c2_2, (c2_3, (c2_4, (c2_5, (c2_6, (c2_7, (c2_8, ()))))))))), ((c3_0, (c3_1, (c3_2, (c3_3, (c3_4, (c3_5, (c3_6, (c3_7, (c3_8, ()))))))))), ())))⟩)))
def r4mul_U2 (s : r4mul_s2X) : OT (Sum r4mul_s2X LEnd) := r4mul_T2 (s.1.1) (s.1.2.2.2.2.2.1) (s.2.1) (s.2.2.1.1) (s.2.2.1.2.1) (s.2.2.1.2.2.1) (s.2.2.1.2.2.2.1) (s.2.2.1.2.2.2.2.1) (s.2.2.1.2.2.2.2.2.1) (s.2.2.1.2.2.2.2.2.2.1) (s.2.2.1.2.2.2.2.2.2.2.1) (s.2.2.1.2.2.2.2.2.2.2.2.1) (s.2.2.2.1.1) (s.2.2.2.1.2.1) (s.2.2.2.1.2.2.1) (s.2.2.2.1.2.2.2.1) (s.2.2.2.1.2.2.2.2.1) (s.2.2.2.1.2.2.2.2.2.1) (s.2.2.2.1.2.2.2.2.2.2.1) (s.2.2.2.1.2.2.2.2.2.2.2.1) (s.2.2.2.1.2.2.2.2.2.2.2.2.1) (s.2.2.2.2.1.1) (s.2.2.2.2.1.2.1) (s.2.2.2.2.1.2.2.1) (s.2.2.2.2.1.2.2.2.1) (s.2.2.2.2.1.2.2.2.2.1) (s.2.2.2.2.1.2.2.2.2.2.1) (s.2.2.2.2.1.2.2.2.2.2.2.1) (s.2.2.2.2.1.2.2.2.2.2.2.2.1) (s.2.2.2.2.1.2.2.2.2.2.2.2.2.1)
theorem r4mul_q2 (s : r4mul_s2X) (Q : Sum r4mul_s2X LEnd → Prop) : wps te E_r4add lamNil 1000 (loopOf (codeOf Try.f16) 2) (r4mul_s2.inj s) (stepK r4mul_s2 r4mul_x2 (Q : Sum r4mul_s2.T LEnd → Prop)) = (r4mul_U2 s).wpR Q := by kernel_rfl
def r4mul_f2 (g2_2 : r4mul_s2X → r4mul_e2_2X) (s : r4mul_s2X) : OT LEnd := (.ok ⟨(.exit 2, r4mul_e2_2), g2_2 s⟩)
def r4mul_o0 : OutSh := ⟨[.val true (.prod .elem (.prod .elem .bool))], [], false⟩
def r4mul_sel : SV → Option OutSh := fun _ => some r4mul_o0
def r4mul_T (ok0 : r4mul_s0X → Bool) (g0_0 : r4mul_s0X → r4mul_e0_0X) (ok2 : r4mul_s2X → Bool) (g2_2 : r4mul_s2X → r4mul_e2_2X) (a0 : Int) (a1 : Elem) (a2 : (Elem × (Elem × Bool))) : OT r4mul_S.Y :=
  let z0 : Elem := { w0 := 0, w1 := 0, w2 := 0, w3 := 0 }
  let z1 : Int := ixor a0 (1 : Int)
  let z2 : Elem := ofP (pS z1) a1
  let z3 : (Int × PUnit × PUnit × PUnit × PUnit × Int × PUnit) × List UInt64 × (UInt64 × UInt64 × UInt64 × UInt64 × UInt64 × UInt64 × UInt64 × UInt64 × Bool × PUnit) × (UInt64 × UInt64 × UInt64 × UInt64 × UInt64 × UInt64 × UInt64 × UInt64 × Bool × PUnit) × (UInt64 × UInt64 × UInt64 × UInt64 × UInt64 × UInt64 × UInt64 × UInt64 × Bool × PUnit) × PUnit := ((a0, (), (), (), (), (255 : Int), ()), [z2.w0, z2.w1, z2.w2, z2.w3], (a2.fst.w0, a2.fst.w1, a2.fst.w2, a2.fst.w3, a2.snd.fst.w0, a2.snd.fst.w1, a2.snd.fst.w2, a2.snd.fst.w3, a2.snd.snd, ()), ((0 : UInt64), (0 : UInt64), (0 : UInt64), (0 : UInt64), (0 : UInt64), (0 : UInt64), (0 : UInt64), (0 : UInt64), false, ()), ((0 : UInt64), (0 : UInt64), (0 : UInt64), (0 : UInt64), (0 : UInt64), (0 : UInt64), (0 : UInt64), (0 : UInt64), true, ()), ())
  let z4 : (Int × PUnit × PUnit × PUnit × PUnit × Int × PUnit) × List UInt64 × (UInt64 × UInt64 × UInt64 × UInt64 × UInt64 × UInt64 × UInt64 × UInt64 × Bool × PUnit) × (UInt64 × UInt64 × UInt64 × UInt64 × UInt64 × UInt64 × UInt64 × UInt64 × Bool × PUnit) × (UInt64 × UInt64 × UInt64 × UInt64 × UInt64 × UInt64 × UInt64 × UInt64 × Bool × PUnit) × PUnit := g0_0 z3
  let z5 := z4.fst
  let z6 := z4.snd
  let z7 := z6.snd
  let z8 := z7.fst
  let z9 := z8.snd
  let z10 := z9.snd
  let z11 := z10.snd
  let z12 := z11.snd
  let z13 := z12.snd
  let z14 := z13.snd
  let z15 := z14.snd
  let z16 := z7.snd
  let z17 := z16.fst
  let z18 := z17.snd
  let z19 := z18.snd
  let z20 := z19.snd
  let z21 := z20.snd
  let z22 := z21.snd
  let z23 := z22.snd
  let z24 := z23.snd
  let z25 := z16.snd.fst
  let z26 := z25.snd
  let z27 := z26.snd
  let z28 := z27.snd
  let z29 := z28.snd
  let z30 := z29.snd
  let z31 := z30.snd
  let z32 := z31.snd
  let z33 : (Int × PUnit × PUnit × PUnit × PUnit × Int × PUnit) × List UInt64 × (UInt64 × UInt64 × UInt64 × UInt64 × UInt64 × UInt64 × UInt64 × UInt64 × Bool × PUnit) × (UInt64 × UInt64 × UInt64 × UInt64 × UInt64 × UInt64 × UInt64 × UInt64 × Bool × PUnit) × (UInt64 × UInt64 × UInt64 × UInt64 × UInt64 × UInt64 × UInt64 × UInt64 × Bool × PUnit) × PUnit := ((z5.fst, (), (), (), (), z5.snd.snd.snd.snd.snd.fst, ()), z6.fst, (z8.fst, z9.fst, z10.fst, z11.fst, z12.fst, z13.fst, z14.fst, z15.fst, z15.snd.fst, ()), (z17.fst, z18.fst, z19.fst, z20.fst, z21.fst, z22.fst, z23.fst, z24.fst, z24.snd.fst, ()), (z25.fst, z26.fst, z27.fst, z28.fst, z29.fst, z30.fst, z31.fst, z32.fst, z32.snd.fst, ()), ())
  let z34 := (g2_2 z33).snd.snd.fst
  let z35 := z34.snd
  let z36 := z35.snd
  let z37 := z36.snd
  let z38 := z37.snd
  let z39 := z38.snd
  let z40 := z39.snd
  let z41 := z40.snd
  (.br (!onB a0 a2)
  (.ok ⟨r4mul_o0, (((z0, z0, true), ()), ())⟩)
  (gd [r2ofn_pre ((z1, a1, ()), ()), ok0 z3, ok2 z33] (.ok ⟨r4mul_o0, ((({ w0 := z34.fst, w1 := z35.fst, w2 := z36.fst, w3 := z37.fst }, { w0 := z38.fst, w1 := z39.fst, w2 := z40.fst, w3 := z41.fst }, z41.snd.fst), ()), ())⟩)))
theorem r4mul_q (ok0 : r4mul_s0X → Bool) (g0_0 : r4mul_s0X → r4mul_e0_0X) (ok2 : r4mul_s2X → Bool) (g2_2 : r4mul_s2X → r4mul_e2_2X) (x : r4mulX) (Q : r4mul_S.Y → Prop) : wpf te E_r4add (lamCons 2 (loopF r4mul_s2 2 ok2 (r4mul_f2 g2_2)) (lamCons 0 (loopF r4mul_s0 0 ok0 (r4mul_f0 g0_0)) lamNil)) 1000 Try.f16 (r4mul_S.inp.inj x).tm (r4mul_S.inp.inj x).hp (fnK r4mul_S r4mul_sel Q) (fun _ _ => False) = (r4mul_T ok0 g0_0 ok2 g2_2 (x.1.1) (x.1.2.1) (x.1.2.2.1)).wpR Q := by kernel_rfl
theorem r4mul_main (ok0 : r4mul_s0X → Bool) (g0_0 : r4mul_s0X → r4mul_e0_0X) (ok2 : r4mul_s2X → Bool) (g2_2 : r4mul_s2X → r4mul_e2_2X) (h0 : ∀ s : r4mul_s0X, ok0 s = true → ∃ m e, loopRun (r4mul_U0) m s = some e ∧ (r4mul_f0 g0_0 s).run = some e) (h2 : ∀ s : r4mul_s2X, ok2 s = true → ∃ m e, loopRun (r4mul_U2) m s = some e ∧ (r4mul_f2 g2_2 s).run = some e) (pre : r4mulX → Bool) (F : r4mulX → OT r4mul_S.Y) (hF : ∀ (x : r4mulX) oy, pre x = true → (F x).run = some oy → (r4mul_T ok0 g0_0 ok2 g2_2 (x.1.1) (x.1.2.1) (x.1.2.2.1)).run = some oy) : SummOk Try.prog 16 (r4mul_S.summ pre F) :=
  fn_tree te_ok E_r4add_ok E_r4add_any (f := 16) (fn := Try.f16) (c := codeOf Try.f16) (by kernel_rfl) (by kernel_rfl) (by kernel_rfl) (S := r4mul_S) (k := 0) (by kernel_rfl) (fun R hR => (lamOk_cons (c := (codeOf Try.f16)) (by kernel_rfl) (id := 2) (by kernel_rfl) (loop_ok te_ok E_r4add_ok E_r4add_any (sh := r4mul_s2) hR (xs := r4mul_x2) (xsMk_small (by kernel_rfl) (by kernel_rfl) hR) xsMk_pan lamOk_nil (n := 1000) (T := r4mul_U2) (fun s Q => r4mul_q2 s Q) (ok := ok2) (f := r4mul_f2 g2_2) h2) (lamOk_cons (c := (codeOf Try.f16)) (by kernel_rfl) (id := 0) (by kernel_rfl) (loop_ok te_ok E_r4add_ok E_r4add_any (sh := r4mul_s0) hR (xs := r4mul_x0) (xsMk_small (by kernel_rfl) (by kernel_rfl) hR) xsMk_pan lamOk_nil (n := 1000) (T := r4mul_U0) (fun s Q => r4mul_q0 s Q) (ok := ok0) (f := r4mul_f0 g0_0) h0) lamOk_nil))) (n := 1000) (sel := r4mul_sel) (fun v o h => by cases h; rfl) (pre := pre) (F := F) (T := fun x => r4mul_T ok0 g0_0 ok2 g2_2 (x.1.1) (x.1.2.1) (x.1.2.2.1)) (fun x Q => r4mul_q ok0 g0_0 ok2 g2_2 x Q) hF
def flatP (P : Pt) : C9 := (P.1.w0, P.1.w1, P.1.w2, P.1.w3, P.2.1.w0, P.2.1.w1, P.2.1.w2, P.2.1.w3, P.2.2, ())
def refStep (p k : Nat) (P : Pt) (n : Nat) (O : Pt) : Pt := cond (bitN k (255 - n)) (sumPt p (sumPt p O O) P) (sumPt p O O)
def refMul (p k : Nat) (P : Pt) : Pt := upto (refStep p k P) inftyP 256
theorem ref_lead {p k t : Nat} {P : Pt} (ht : t ≤ 256) (hk : k / 2 ^ t = 0) : ∀ n, n ≤ 256 - t → upto (refStep p k P) inftyP n = inftyP
  | 0, _ => rfl
  | n + 1, hn => by
    show refStep p k P n (upto (refStep p k P) inftyP n) = _
    rw [ref_lead ht hk n (by omega)]
    have hb : bitN k (255 - n) = false := by
      unfold bitN
      rw [show 255 - n = t + (255 - n - t) by omega, Nat.pow_add, ← Nat.div_div_eq_div_mul, hk, Nat.zero_div]
      rfl
    unfold refStep
    rw [hb]
    rfl
def rm_st (s : Int) (B : Elem) (P : C9) (Q : C9) (O : C9) (i : Int) : r4mul_s0X := ((s, (), (), (), (), i, ()), (lst B, P, Q, O, ()))
theorem rm_loop0 (s : Int) (B : Elem) (P Q O : C9) : ∀ n : Nat, n ≤ 256 → ∃ m, loopRun r4mul_U0 m (rm_st s B P Q O ((n : Int) - 1)) = some ⟨(.exit 0, r4mul_e0_0), rm_st s B P Q O (topN B.nat n)⟩
  | 0, _ => ⟨1, loopRun_out (OT.run_f (decide_eq_false (by dsimp only [rm_st]; omega)))⟩
  | n + 1, hn => by
    have e1 : ((n + 1 : Nat) : Int) - 1 = (n : Int) := by omega
    rw [e1]
    have hb := ebit (b := B) (k := n) (by omega)
    unfold topN
    rcases (Bool.eq_false_or_eq_true (bitN B.nat n)).symm with h | h
    · obtain ⟨m, hm⟩ := rm_loop0 s B P Q O n (by omega)
      rw [h] at hb ⊢
      refine ⟨m + 1, loopRun_more ?_ hm⟩
      refine (OT.run_t (decide_eq_true (by dsimp only [rm_st]; omega))).trans ((ex_gd (B := B) (k := n) (by omega) _).trans ((OT.run_t ?_).trans ((gd_run ?_).trans rfl)))
      · exact (and_01 _).trans (congrArg Bool.not hb)
      · simp only [List.all_cons, List.all_nil, Bool.and_true]
        exact inR_of (by dsimp only [rm_st]; omega)
    · rw [h] at hb ⊢
      refine ⟨1, loopRun_out ?_⟩
      refine (OT.run_t (decide_eq_true (by dsimp only [rm_st]; omega))).trans ((ex_gd (B := B) (k := n) (by omega) _).trans ((OT.run_f ?_).trans rfl))
      exact (and_01 _).trans (congrArg Bool.not hb)
def r4mul_ok0 (s : r4mul_s0X) : Bool := decide (s.1.2.2.2.2.2.1 = 255 ∧ s.2.1.length = 4)
def r4mul_g0 (s : r4mul_s0X) : r4mul_e0_0X := ((s.1.1, (), (), (), (), topN (elemOf s.2.1).nat 256, ()), s.2)
theorem r4mul_h0 : ∀ s : r4mul_s0X, r4mul_ok0 s = true → ∃ m e, loopRun r4mul_U0 m s = some e ∧ (r4mul_f0 r4mul_g0 s).run = some e := by
  rintro ⟨⟨s, ⟨⟩, ⟨⟩, ⟨⟩, ⟨⟩, i, ⟨⟩⟩, ⟨l, P, Q, O, ⟨⟩⟩⟩ h
  have h' := of_decide_eq_true h
  dsimp only at h'
  obtain ⟨rfl, hl⟩ := h'
  obtain ⟨B, rfl⟩ : ∃ a, l = lst a := ⟨elemOf l, (lst_elemOf hl).symm⟩
  obtain ⟨m, hm⟩ := rm_loop0 s B P Q O 256 (by omega)
  exact ⟨m, _, hm, rfl⟩
theorem rm_step {s : Int} (hs : sortOk s = true) (B : Elem) (P Q : C9) (O : Pt) {k : Nat} (hk : k < 256) :
    (r4mul_U2 (rm_st s B P Q (flatP O) (k : Int))).run = some (.inl (rm_st s B P Q (flatP (refStep (pS s) B.nat (cellP P) (255 - k) O)) ((k : Int) - 1))) := by
  have hb := ebit (b := B) (k := k) hk
  have t1 : Int.tdiv (k : Int) 64 = ((k / 64 : Nat) : Int) := by rw [Int.tdiv_eq_ediv_of_nonneg (by omega)]; omega
  have hi : inR ((k : Int) - 1) = true := inR_of (by omega)
  refine (OT.run_t (decide_eq_true (by dsimp only [rm_st]; omega))).trans ((gd_run ?_).trans ?_)
  · simp only [rm_st, t1, Int.toNat_natCast, Nat.add_zero, lst_length, List.all_cons, List.all_nil, Bool.and_true, Bool.true_and, Bool.and_eq_true]
    exact ⟨hs, inR_of (by omega), inB_of (by omega), decide_eq_true (by omega)⟩
  · rcases (Bool.eq_false_or_eq_true (bitN B.nat k)).symm with h | h
    · have e : refStep (pS s) B.nat (cellP P) (255 - k) O = sumPt (pS s) O O := by unfold refStep; rw [show 255 - (255 - k) = k by omega, h]; rfl
      rw [e]
      rw [h] at hb
      refine (OT.run_f hb).trans ((gd_run ?_).trans rfl)
      simp only [List.all_cons, List.all_nil, Bool.and_true]
      exact hi
    · have e : refStep (pS s) B.nat (cellP P) (255 - k) O = sumPt (pS s) (sumPt (pS s) O O) (cellP P) := by unfold refStep; rw [show 255 - (255 - k) = k by omega, h]; rfl
      rw [e]
      rw [h] at hb
      refine (OT.run_t hb).trans ((gd_run ?_).trans rfl)
      simp only [List.all_cons, List.all_nil, Bool.and_true, Bool.and_eq_true]
      exact ⟨hs, hi⟩
theorem rm_loop2 {s : Int} (hs : sortOk s = true) (B : Elem) (P Q : C9) : ∀ (n : Nat) (O : Pt), n ≤ 256 → O = upto (refStep (pS s) B.nat (cellP P)) inftyP (256 - n) →
    ∃ m, loopRun r4mul_U2 m (rm_st s B P Q (flatP O) ((n : Int) - 1)) = some ⟨(.exit 2, r4mul_e2_2), (((), (), ()), (Q, flatP (refMul (pS s) B.nat (cellP P)), ()))⟩
  | 0, O, _, hO => by
    have e : refMul (pS s) B.nat (cellP P) = O := hO.symm
    rw [e]
    exact ⟨1, loopRun_out (OT.run_f (decide_eq_false (by dsimp only [rm_st]; omega)))⟩
  | n + 1, O, hn, hO => by
    obtain ⟨m, hm⟩ := rm_loop2 hs B P Q n (refStep (pS s) B.nat (cellP P) (255 - n) O) (by omega) (by
      rw [show 256 - n = (255 - n) + 1 by omega, hO, show 256 - (n + 1) = 255 - n by omega]
      rfl)
    rw [show ((n + 1 : Nat) : Int) - 1 = (n : Int) by omega]
    exact ⟨m + 1, loopRun_more (rm_step hs B P Q O (by omega)) hm⟩
def r4mul_ok2 (s : r4mul_s2X) : Bool := sortOk s.1.1 && decide (s.1.2.2.2.2.2.1 = topN (elemOf s.2.1).nat 256 ∧ s.2.1.length = 4 ∧ cellP s.2.2.2.2.1 = inftyP)
def r4mul_g2 (s : r4mul_s2X) : r4mul_e2_2X := (((), (), ()), (s.2.2.2.1, flatP (refMul (pS s.1.1) (elemOf s.2.1).nat (cellP s.2.2.1)), ()))
theorem r4mul_h2 : ∀ s : r4mul_s2X, r4mul_ok2 s = true → ∃ m e, loopRun r4mul_U2 m s = some e ∧ (r4mul_f2 r4mul_g2 s).run = some e := by
  rintro ⟨⟨s, ⟨⟩, ⟨⟩, ⟨⟩, ⟨⟩, i, ⟨⟩⟩, ⟨l, P, Q, O, ⟨⟩⟩⟩ h
  simp only [r4mul_ok2, Bool.and_eq_true, decide_eq_true_eq] at h
  obtain ⟨hs, rfl, hl, hO⟩ := h
  have hO2 : O = flatP inftyP := by rw [← hO]; rfl
  subst hO2
  obtain ⟨B, rfl⟩ : ∃ a, l = lst a := ⟨elemOf l, (lst_elemOf hl).symm⟩
  obtain ⟨t, e1, e2, e3⟩ := topN_spec B.nat 256 (Nat.div_eq_of_lt (nat_lt B))
  obtain ⟨m, hm⟩ := rm_loop2 hs B P Q t inftyP e2 (ref_lead e2 e3 _ (Nat.le_refl _)).symm
  rw [← e1] at hm
  exact ⟨m, _, hm, rfl⟩
def mulRef (c : Int) (k : Elem) (P : Pt) : Pt := cond (onB c P) (refMul (pS c) (ofP (pS (ixor c 1)) k).nat P) inftyP
def r4mul_pre (_ : r4mulX) : Bool := true
def r4mul_F (x : r4mulX) : OT r4mul_S.Y := .ok ⟨r4mul_o0, ((mulRef x.1.1 x.1.2.1 x.1.2.2.1, ()), ())⟩
theorem r4mul_ok : SummOk Try.prog 16 (r4mul_S.summ r4mul_pre r4mul_F) := r4mul_main r4mul_ok0 r4mul_g0 r4mul_ok2 r4mul_g2 r4mul_h0 r4mul_h2 _ _ fun x oy _ ho => by
  rw [← ho]
  clear ho
  obtain ⟨⟨c, k, P, ⟨⟩⟩, ⟨⟩⟩ := x
  show _ = (OT.ok ⟨r4mul_o0, ((mulRef c k P, ()), ())⟩ : OT r4mul_S.Y).run
  rcases (Bool.eq_false_or_eq_true (onB c P)).symm with h1 | h1
  · have e : mulRef c k P = inftyP := by unfold mulRef; rw [h1]; rfl
    rw [e]
    exact OT.run_t (b := !onB c P) (by rw [h1]; rfl)
  · have hs := onB_sort h1
    have e : mulRef c k P = refMul (pS c) (ofP (pS (ixor c 1)) k).nat P := by unfold mulRef; rw [h1]; rfl
    rw [e]
    refine (OT.run_f (b := !onB c P) (by rw [h1]; rfl)).trans ((gd_run ?_).trans rfl)
    simp only [List.all_cons, List.all_nil, Bool.and_true, Bool.and_eq_true]
    refine ⟨sort_other hs, decide_eq_true (p := (255 : Int) = 255 ∧ (lst (ofP (pS (ixor c 1)) k)).length = 4) ⟨rfl, rfl⟩, ?_⟩
    refine (Bool.and_eq_true _ _).mpr ⟨hs, ?_⟩
    exact decide_eq_true (p := topN (ofP (pS (ixor c 1)) k).nat 256 = topN (ofP (pS (ixor c 1)) k).nat 256 ∧ (lst (ofP (pS (ixor c 1)) k)).length = 4 ∧ inftyP = inftyP) ⟨rfl, rfl, rfl⟩
def r4mul_summ : Summ := (r4mul_S.summ r4mul_pre r4mul_F)
theorem r4mul_known : SummOk Try.prog 16 r4mul_summ := r4mul_ok
theorem r4mul_smono : MonoOk r4mul_summ := fn_mono
def E_r4mul : Env := envCons 16 r4mul_summ E_r4add
theorem E_r4mul_ok : EnvOk Try.prog E_r4mul := envOk_cons r4mul_known E_r4add_ok
theorem E_r4mul_mono : EnvMono E_r4mul := envMono_cons r4mul_smono E_r4add_mono
theorem E_r4mul_any : AnyOk Try.prog te E_r4mul := any_ok follows te_ok E_r4mul_ok E_r4mul_mono
def r2sqrt_S : FnSpec := ⟨[.val false .int, .val true .elem], [], true, 0, false⟩
abbrev r2sqrtX : Type := ((Int) × (Elem) × Unit) × (Unit)
def r2sqrt_s0 : Shape := ⟨114, [(0, .val false .int), (4, .ptr 0 0 0), (10, .ptr 1 0 0), (14, .ptr 2 0 0), (15, .ptr 3 0 0), (16, .ptr 4 0 0), (17, .val false .int)], [(0, .row .u64), (1, .row .u64), (2, .row .u64), (3, .row .u64), (4, .row .u64)], 0, true⟩
abbrev r2sqrt_s0X : Type := ((Int) × (Unit) × (Unit) × (Unit) × (Unit) × (Unit) × (Int) × Unit) × ((List (UInt64)) × (List (UInt64)) × (List (UInt64)) × (List (UInt64)) × (List (UInt64)) × Unit)
def r2sqrt_s2 : Shape := ⟨114, [(0, .val false .int), (4, .ptr 0 0 0), (10, .ptr 1 0 0), (14, .ptr 2 0 0), (15, .ptr 3 0 0), (16, .ptr 4 0 0), (17, .val false .int), (18, .ptr 5 0 0), (19, .val false .int)], [(0, .row .u64), (1, .row .u64), (2, .row .u64), (3, .row .u64), (4, .row .u64), (5, .row .u64)], 0, true⟩
abbrev r2sqrt_s2X : Type := ((Int) × (Unit) × (Unit) × (Unit) × (Unit) × (Unit) × (Int) × (Unit) × (Int) × Unit) × ((List (UInt64)) × (List (UInt64)) × (List (UInt64)) × (List (UInt64)) × (List (UInt64)) × (List (UInt64)) × Unit)
def r2sqrt_e2_2 : Shape := ⟨114, [(0, .val false .int), (4, .ptr 0 0 0), (10, .ptr 1 0 0), (14, .ptr 2 0 0), (15, .ptr 3 0 0), (16, .ptr 4 0 0), (17, .val false .int), (18, .ptr 5 0 0)], [(0, .row .u64), (1, .row .u64), (2, .row .u64), (3, .row .u64), (4, .row .u64), (5, .row .u64)], 0, true⟩
abbrev r2sqrt_e2_2X : Type := ((Int) × (Unit) × (Unit) × (Unit) × (Unit) × (Unit) × (Int) × (Unit) × Unit) × ((List (UInt64)) × (List (UInt64)) × (List (UInt64)) × (List (UInt64)) × (List (UInt64)) × (List (UInt64)) × Unit)
def r2sqrt_x2 : SE → Option Shape := xsMk [(2, r2sqrt_e2_2)] none
def r2sqrt_T2 (a0 : Int) (a17 : Int) (a19 : Int) (c0 : List (UInt64)) (c1 : List (UInt64)) (c2 : List (UInt64)) (c3 : List (UInt64)) (c4 : List (UInt64)) (c5 : List (UInt64)) : OT (Sum r2sqrt_s2X LEnd) :=
  let z0 : Nat := List.length c5
  let z1 : Bool := decide (4 ≤ z0)
  let z2 : Elem := { w0 := List.getD c5 0 0, w1 := List.getD c5 1 0, w2 := List.getD c5 2 0, w3 := List.getD c5 3 0 }
  let z3 : Elem := mulP (pS a0) z2 z2
  (.br (decide (a19 < a17))
  (gd [z1, z1, r2mul_pre ((a0, z2, z2, ()), ()), decide ((4 / 1 : Nat) + 0 ≤ z0), inR (a19 + (1 : Int))] (.ok (.inl ((a0, ((), ((), ((), ((), ((), (a17, ((), (a19 + (1 : Int), ()))))))))), (c0, (c1, (c2, (c3, (c4, (List.set (List.set (List.set (List.set c5 0 z3.w0) 1 z3.w1) 2 z3.w2) 3 z3.w3, ()))))))))))
  (.ok (.inr ⟨(.exit 2, r2sqrt_e2_2), ((a0, ((), ((), ((), ((), ((), (a17, ((), ())))))))), (c0, (c1, (c2, (c3, (c4, (c5, ())))))))⟩)))
def r2sqrt_U2 (s : r2sqrt_s2X) : OT (Sum r2sqrt_s2X LEnd) := r2sqrt_T2 (s.1.1) (s.1.2.2.2.2.2.2.1) (s.1.2.2.2.2.2.2.2.2.1) (s.2.1) (s.2.2.1) (s.2.2.2.1) (s.2.2.2.2.1) (s.2.2.2.2.2.1) (s.2.2.2.2.2.2.1)
theorem r2sqrt_q2 (s : r2sqrt_s2X) (Q : Sum r2sqrt_s2X LEnd → Prop) : wps te E_r4mul lamNil 1000 (loopOf (loopOf (codeOf Try.f71) 0) 2) (r2sqrt_s2.inj s) (stepK r2sqrt_s2 r2sqrt_x2 (Q : Sum r2sqrt_s2.T LEnd → Prop)) = (r2sqrt_U2 s).wpR Q := by kernel_rfl
def r2sqrt_f2 (g2_2 : r2sqrt_s2X → r2sqrt_e2_2X) (s : r2sqrt_s2X) : OT LEnd := (.ok ⟨(.exit 2, r2sqrt_e2_2), g2_2 s⟩)
def r2sqrt_e0_0 : Shape := ⟨114, [(0, .val false .int), (4, .ptr 0 0 0), (14, .ptr 1 0 0)], [(0, .row .u64), (1, .row .u64)], 0, true⟩
abbrev r2sqrt_e0_0X : Type := ((Int) × (Unit) × (Unit) × Unit) × ((List (UInt64)) × (List (UInt64)) × Unit)
def r2sqrt_x0 : SE → Option Shape := xsMk [(0, r2sqrt_e0_0)] none
def r2sqrt_T0 (ok2 : r2sqrt_s2X → Bool) (g2_2 : r2sqrt_s2X → r2sqrt_e2_2X) (a0 : Int) (a17 : Int) (c0 : List (UInt64)) (c1 : List (UInt64)) (c2 : List (UInt64)) (c3 : List (UInt64)) (c4 : List (UInt64)) : OT (Sum r2sqrt_s0X LEnd) :=
  let z0 : (Int × PUnit × PUnit × PUnit × PUnit × PUnit × Int × PUnit × Int × PUnit) × List UInt64 × List UInt64 × List UInt64 × List UInt64 × List UInt64 × List UInt64 × PUnit := ((a0, (), (), (), (), (), a17, (), (1 : Int), ()), c0, c1, c2, c3, c4, [List.getD c3 0 0, List.getD c3 1 0, List.getD c3 2 0, List.getD c3 3 0], ())
  let z1 : (Int × PUnit × PUnit × PUnit × PUnit × PUnit × Int × PUnit × PUnit) × List UInt64 × List UInt64 × List UInt64 × List UInt64 × List UInt64 × List UInt64 × PUnit := g2_2 z0
  let z2 := z1.snd
  let z3 := z2.snd
  let z4 := z3.snd
  let z5 := z4.snd
  let z6 := z5.snd
  let z7 := z6.snd.fst
  let z8 := z3.fst
  let z9 := z4.fst
  let z10 : Nat := List.length z9
  let z11 := z6.fst
  let z12 : Nat := List.length z11
  let z13 : Bool := decide (4 ≤ z12)
  let z14 := z1.fst
  let z15 := z14.fst
  let z16 : Elem := { w0 := List.getD z9 0 0, w1 := List.getD z9 1 0, w2 := List.getD z9 2 0, w3 := List.getD z9 3 0 }
  let z17 : Elem := { w0 := List.getD z11 0 0, w1 := List.getD z11 1 0, w2 := List.getD z11 2 0, w3 := List.getD z11 3 0 }
  let z18 : Elem × PUnit := (z17, ())
  let z19 := z5.fst
  let z20 : Nat := List.length z19
  let z21 : Bool := r2mul_pre ((z15, z17, z18), ())
  let z22 : Elem := { w0 := List.getD z19 0 0, w1 := List.getD z19 1 0, w2 := List.getD z19 2 0, w3 := List.getD z19 3 0 }
  let z23 : Nat := pS z15
  let z24 : Elem := mulP z23 z17 z17
  let z25 : Bool := decide ((4 / 1 : Nat) + 0 ≤ z12)
  let z26 : Bool := inR (z14.snd.snd.snd.snd.snd.snd.fst - (1 : Int))
  let z27 := z2.fst
  let z28 : Elem := mulP z23 z16 z17
  let z29 : Elem := mulP z23 z22 z24
  let z30 : List UInt64 := List.set (List.set (List.set (List.set z11 0 z24.w0) 1 z24.w1) 2 z24.w2) 3 z24.w3
  (.br (decide ((1 : Int) ≤ a17))
  (gd [decide (4 ≤ List.length c3), ok2 z0, decide (4 ≤ List.length z7), decide (4 ≤ List.length z8)] (.br (!(List.getD z7 0 0 == List.getD z8 0 0 && (List.getD z7 1 0 == List.getD z8 1 0 && (List.getD z7 2 0 == List.getD z8 2 0 && (List.getD z7 3 0 == List.getD z8 3 0 && true)))))
    (gd [decide (4 ≤ z10), z13, r2mul_pre ((z15, z16, z18), ()), decide ((4 / 1 : Nat) + 0 ≤ z10), decide (4 ≤ z20), z13, z13, z21, r2mul_pre ((z15, z22, z24, ()), ()), decide ((4 / 1 : Nat) + 0 ≤ z20), z13, z13, z21, z25, z26] (.ok (.inl ((z15, ((), ((), ((), ((), ((), (z14.snd.snd.snd.snd.snd.snd.fst - (1 : Int), ()))))))), (z27, (z8, (List.set (List.set (List.set (List.set z9 0 z28.w0) 1 z28.w1) 2 z28.w2) 3 z28.w3, (List.set (List.set (List.set (List.set z19 0 z29.w0) 1 z29.w1) 2 z29.w2) 3 z29.w3, (z30, ())))))))))
    (gd [z13, z13, z21, z25, z26] (.ok (.inl ((z15, ((), ((), ((), ((), ((), (z14.snd.snd.snd.snd.snd.snd.fst - (1 : Int), ()))))))), (z27, (z8, (z9, (z19, (z30, ())))))))))))
  (.ok (.inr ⟨(.exit 0, r2sqrt_e0_0), ((a0, ((), ((), ()))), (c0, (c2, ())))⟩)))
def r2sqrt_U0 (ok2 : r2sqrt_s2X → Bool) (g2_2 : r2sqrt_s2X → r2sqrt_e2_2X) (s : r2sqrt_s0X) : OT (Sum r2sqrt_s0X LEnd) := r2sqrt_T0 ok2 g2_2 (s.1.1) (s.1.2.2.2.2.2.2.1) (s.2.1) (s.2.2.1) (s.2.2.2.1) (s.2.2.2.2.1) (s.2.2.2.2.2.1)
theorem r2sqrt_q0 (ok2 : r2sqrt_s2X → Bool) (g2_2 : r2sqrt_s2X → r2sqrt_e2_2X) (s : r2sqrt_s0X) (Q : Sum r2sqrt_s0X LEnd → Prop) : wps te E_r4mul (lamCons 2 (loopF r2sqrt_s2 2 ok2 (r2sqrt_f2 g2_2)) lamNil) 1000 (loopOf (codeOf Try.f71) 0) (r2sqrt_s0.inj s) (stepK r2sqrt_s0 r2sqrt_x0 (Q : Sum r2sqrt_s0.T LEnd → Prop)) = (r2sqrt_U0 ok2 g2_2 s).wpR Q := by kernel_rfl
def r2sqrt_f0 (g0_0 : r2sqrt_s0X → r2sqrt_e0_0X) (s : r2sqrt_s0X) : OT LEnd := (.ok ⟨(.exit 0, r2sqrt_e0_0), g0_0 s⟩)
def r2sqrt_o0 : OutSh := ⟨[.val true .elem, .val false .int], [], false⟩
def r2sqrt_sel : SV → Option OutSh := fun _ => some r2sqrt_o0
def r2sqrt_T (ok2 : r2sqrt_s2X → Bool) (g2_2 : r2sqrt_s2X → r2sqrt_e2_2X) (ok0 : r2sqrt_s0X → Bool) (g0_0 : r2sqrt_s0X → r2sqrt_e0_0X) (a0 : Int) (a1 : Elem) : OT r2sqrt_S.Y :=
  let z0 : Int × PUnit := (a0, ())
  let z1 : Nat := pS a0
  let z2 : Elem := ofP z1 a1
  let z3 : Elem := { w0 := 0, w1 := 0, w2 := 0, w3 := 0 }
  let z4 : Elem × Int × UInt64 × UInt64 × Elem := numOf (Int.toNat a0)
  let z5 : Elem := { w0 := 1, w1 := 0, w2 := 0, w3 := 0 }
  let z6 : Elem := (wdif z4.fst z5).fst
  let z7 : Elem := halfE z6
  let z8 : Elem := expP z1 z2 z7
  let z9 := z4.snd.fst
  let z10 : Elem := halvesE z6 (Int.toNat z9)
  let z11 : Elem := halfE (wsum z10 z5).fst
  let z12 : Elem × PUnit := (z10, ())
  let z13 : Elem := { w0 := 5, w1 := 0, w2 := 0, w3 := 0 }
  let z14 : Elem := expP z1 z2 z11
  let z15 : Elem := expP z1 z2 z10
  let z16 : Elem := expP z1 z13 z10
  let z17 : (Int × PUnit × PUnit × PUnit × PUnit × PUnit × Int × PUnit) × List UInt64 × List UInt64 × List UInt64 × List UInt64 × List UInt64 × PUnit := ((a0, (), (), (), (), (), z9 - (1 : Int), ()), [(0 : UInt64), (0 : UInt64), (0 : UInt64), (0 : UInt64)], [(1 : UInt64), (0 : UInt64), (0 : UInt64), (0 : UInt64)], [z14.w0, z14.w1, z14.w2, z14.w3], [z15.w0, z15.w1, z15.w2, z15.w3], [z16.w0, z16.w1, z16.w2, z16.w3], ())
  let z18 : (Int × PUnit × PUnit × PUnit) × List UInt64 × List UInt64 × PUnit := g0_0 z17
  let z19 := z18.snd
  let z20 := z19.snd.fst
  let z21 : Nat := List.length z20
  let z22 : UInt64 := List.getD z20 0 0
  let z23 : Bool := decide (4 ≤ z21)
  let z24 := z18.fst.fst
  let z25 : Elem := { w0 := z22, w1 := List.getD z20 1 0, w2 := List.getD z20 2 0, w3 := List.getD z20 3 0 }
  let z26 : Elem := negP (pS z24) z25
  let z27 : List UInt64 := List.set (List.set (List.set (List.set z20 0 z26.w0) 1 z26.w1) 2 z26.w2) 3 z26.w3
  let z28 := z19.fst
  let z29 : Nat := List.length z28
  let z30 : List UInt64 := lay z28 z27 4 (0 : UInt64)
  let z31 : List UInt64 := lay z28 z20 4 (0 : UInt64)
  (gd [r2modn_pre (z0, ()), r2ofn_pre ((a0, a1, ()), ())] (.br (z2.w0 == (0 : UInt64) && (z2.w1 == (0 : UInt64) && (z2.w2 == (0 : UInt64) && (z2.w3 == (0 : UInt64) && true))))
  (.ok ⟨r2sqrt_o0, ((z3, ((0 : Int), ())), ())⟩)
  (gd [r2exp_pre ((a0, z2, z7, ()), ())] (.br (!(z8.w0 == (1 : UInt64) && (z8.w1 == (0 : UInt64) && (z8.w2 == (0 : UInt64) && (z8.w3 == (0 : UInt64) && true)))))
    (.ok ⟨r2sqrt_o0, ((z3, ((22 : Int), ())), ())⟩)
    (gd [r2adin_pre (z0, ()), r2halves_pre ((z6, z9, ()), ()), r2exp_pre ((a0, z2, z11, ()), ()), r2exp_pre ((a0, z2, z12), ()), r2exp_pre ((a0, z13, z12), ()), inR (z9 - (1 : Int)), ok0 z17, decide (0 < z21)] (.br (z22 % (2 : UInt64) == (1 : UInt64))
      (gd [z23, r2neg_pre ((z24, z25, ()), ()), decide ((4 / 1 : Nat) + 0 ≤ z21), decide (4 ≤ List.length z27), decide ((4 / 1 : Nat) + 0 ≤ z29), decide (4 ≤ List.length z30)] (.ok ⟨r2sqrt_o0, (({ w0 := List.getD z30 0 0, w1 := List.getD z30 1 0, w2 := List.getD z30 2 0, w3 := List.getD z30 3 0 }, ((0 : Int), ())), ())⟩))
      (gd [z23, decide ((4 / 1 : Nat) + 0 ≤ z29), decide (4 ≤ List.length z31)] (.ok ⟨r2sqrt_o0, (({ w0 := List.getD z31 0 0, w1 := List.getD z31 1 0, w2 := List.getD z31 2 0, w3 := List.getD z31 3 0 }, ((0 : Int), ())), ())⟩))))))))
theorem r2sqrt_q (ok2 : r2sqrt_s2X → Bool) (g2_2 : r2sqrt_s2X → r2sqrt_e2_2X) (ok0 : r2sqrt_s0X → Bool) (g0_0 : r2sqrt_s0X → r2sqrt_e0_0X) (x : r2sqrtX) (Q : r2sqrt_S.Y → Prop) : wpf te E_r4mul (lamCons 0 (loopF r2sqrt_s0 0 ok0 (r2sqrt_f0 g0_0)) lamNil) 1000 Try.f71 (r2sqrt_S.inp.inj x).tm (r2sqrt_S.inp.inj x).hp (fnK r2sqrt_S r2sqrt_sel Q) (fun _ _ => False) = (r2sqrt_T ok2 g2_2 ok0 g0_0 (x.1.1) (x.1.2.1)).wpR Q := by kernel_rfl
theorem r2sqrt_main (ok2 : r2sqrt_s2X → Bool) (g2_2 : r2sqrt_s2X → r2sqrt_e2_2X) (ok0 : r2sqrt_s0X → Bool) (g0_0 : r2sqrt_s0X → r2sqrt_e0_0X) (h2 : ∀ s : r2sqrt_s2X, ok2 s = true → ∃ m e, loopRun (r2sqrt_U2) m s = some e ∧ (r2sqrt_f2 g2_2 s).run = some e) (h0 : ∀ s : r2sqrt_s0X, ok0 s = true → ∃ m e, loopRun (r2sqrt_U0 ok2 g2_2) m s = some e ∧ (r2sqrt_f0 g0_0 s).run = some e) (pre : r2sqrtX → Bool) (F : r2sqrtX → OT r2sqrt_S.Y) (hF : ∀ (x : r2sqrtX) oy, pre x = true → (F x).run = some oy → (r2sqrt_T ok2 g2_2 ok0 g0_0 (x.1.1) (x.1.2.1)).run = some oy) : SummOk Try.prog 71 (r2sqrt_S.summ pre F) :=
  fn_tree te_ok E_r4mul_ok E_r4mul_any (f := 71) (fn := Try.f71) (c := codeOf Try.f71) (by kernel_rfl) (by kernel_rfl) (by kernel_rfl) (S := r2sqrt_S) (k := 0) (by kernel_rfl) (fun R hR => (lamOk_cons (c := (codeOf Try.f71)) (by kernel_rfl) (id := 0) (by kernel_rfl) (loop_ok te_ok E_r4mul_ok E_r4mul_any (sh := r2sqrt_s0) hR (xs := r2sqrt_x0) (xsMk_small (by kernel_rfl) (by kernel_rfl) hR) xsMk_pan (lamOk_cons (c := (loopOf (codeOf Try.f71) 0)) (by kernel_rfl) (id := 2) (by kernel_rfl) (loop_ok te_ok E_r4mul_ok E_r4mul_any (sh := r2sqrt_s2) hR (xs := r2sqrt_x2) (xsMk_small (by kernel_rfl) (by kernel_rfl) hR) xsMk_pan lamOk_nil (n := 1000) (T := r2sqrt_U2) (fun s Q => r2sqrt_q2 s Q) (ok := ok2) (f := r2sqrt_f2 g2_2) h2) lamOk_nil) (n := 1000) (T := r2sqrt_U0 ok2 g2_2) (fun s Q => r2sqrt_q0 ok2 g2_2 s Q) (ok := ok0) (f := r2sqrt_f0 g0_0) h0) lamOk_nil)) (n := 1000) (sel := r2sqrt_sel) (fun v o h => by cases h; rfl) (pre := pre) (F := F) (T := fun x => r2sqrt_T ok2 g2_2 ok0 g0_0 (x.1.1) (x.1.2.1)) (fun x Q => r2sqrt_q ok2 g2_2 ok0 g0_0 x Q) hF
def oneE : Elem := ⟨1, 0, 0, 0⟩
def sqN (p : Nat) (b : Elem) (n : Nat) : Elem := upto (fun _ e => mulP p e e) b n
def r2sqrt_ok2 (s : r2sqrt_s2X) : Bool := sortOk s.1.1 && decide (s.1.2.2.2.2.2.2.2.2.1 = 1 ∧ s.1.2.2.2.2.2.2.1 ≤ 1000 ∧ s.2.2.2.2.2.2.1.length = 4)
def r2sqrt_g2 (s : r2sqrt_s2X) : r2sqrt_e2_2X := ((s.1.1, (), (), (), (), (), s.1.2.2.2.2.2.2.1, (), ()), (s.2.1, s.2.2.1, s.2.2.2.1, s.2.2.2.2.1, s.2.2.2.2.2.1, lst (sqN (pS s.1.1) (elemOf s.2.2.2.2.2.2.1) (s.1.2.2.2.2.2.2.1 - 1).toNat), ()))
theorem r2sqrt_h2 : ∀ s : r2sqrt_s2X, r2sqrt_ok2 s = true → ∃ m e, loopRun r2sqrt_U2 m s = some e ∧ (r2sqrt_f2 r2sqrt_g2 s).run = some e := by
  rintro ⟨⟨s, ⟨⟩, ⟨⟩, ⟨⟩, ⟨⟩, ⟨⟩, i, ⟨⟩, j, ⟨⟩⟩, ⟨c0, c1, c2, c3, c4, c5, ⟨⟩⟩⟩ h
  simp only [r2sqrt_ok2, Bool.and_eq_true, decide_eq_true_eq] at h
  obtain ⟨hs, rfl, hi, hl⟩ := h
  obtain ⟨t, rfl⟩ : ∃ a, c5 = lst a := ⟨elemOf c5, (lst_elemOf hl).symm⟩
  have := (loop_upto (T := r2sqrt_U2) (fun k t => (((s, (), (), (), (), (), i, (), 1 + (k : Int), ()), (c0, c1, c2, c3, c4, lst t, ())) : r2sqrt_s2X)) (fun _ e => mulP (pS s) e e)
    (fun t => (⟨(.exit 2, r2sqrt_e2_2), ((s, (), (), (), (), (), i, (), ()), (c0, c1, c2, c3, c4, lst t, ()))⟩ : LEnd)) (i - 1).toNat t (fun _ _ => True) trivial (fun k t hk _ => ⟨?_, trivial⟩) (fun t _ => ?_)).1
  · obtain ⟨m, hm⟩ := this
    exact ⟨m, _, hm, rfl⟩
  · have e2 : (1 : Int) + (k : Int) + 1 = 1 + ((k + 1 : Nat) : Int) := by omega
    rw [← e2]
    refine (OT.run_t (decide_eq_true (by dsimp only; omega))).trans ((gd_run ?_).trans rfl)
    simp only [List.all_cons, List.all_nil, Bool.and_true, Bool.and_eq_true]
    exact ⟨rfl, rfl, hs, rfl, inR_of (by omega)⟩
  · exact OT.run_f (decide_eq_false (by dsimp only; omega))
abbrev Ton : Type := Elem × Elem × Elem
def tonStep (p m : Nat) (k : Nat) (w : Ton) : Ton := cond (eqE (sqN p w.2.1 (m - k - 1)) oneE) (w.1, w.2.1, mulP p w.2.2 w.2.2) (mulP p w.1 w.2.2, mulP p w.2.1 (mulP p w.2.2 w.2.2), mulP p w.2.2 w.2.2)
def ton_st (s : Int) (c0 : List UInt64) (i : Int) (w : Ton) : r2sqrt_s0X := ((s, (), (), (), (), (), i, ()), (c0, lst oneE, lst w.1, lst w.2.1, lst w.2.2, ()))
theorem ton_step {s : Int} (hs : sortOk s = true) (c0 : List UInt64) {m k : Nat} (hm : m ≤ 1000) (hk : k < m) (w : Ton) :
    (r2sqrt_U0 r2sqrt_ok2 r2sqrt_g2 (ton_st s c0 ((m : Int) - (k : Int)) w)).run = some (.inl (ton_st s c0 ((m : Int) - ((k + 1 : Nat) : Int)) (tonStep (pS s) m k w))) := by
  obtain ⟨x, b, z⟩ := w
  have e2 : (m : Int) - ((k + 1 : Nat) : Int) = (m : Int) - (k : Int) - 1 := by omega
  have hi : inR ((m : Int) - (k : Int) - 1) = true := inR_of (by omega)
  have hk2 : ((m : Int) - (k : Int) - 1).toNat = m - k - 1 := by omega
  have hg : r2sqrt_g2 ((s, (), (), (), (), (), (m : Int) - (k : Int), (), 1, ()), (c0, lst oneE, lst x, lst b, lst z, lst b, ())) = ((s, (), (), (), (), (), (m : Int) - (k : Int), (), ()), (c0, lst oneE, lst x, lst b, lst z, lst (sqN (pS s) b (m - k - 1)), ())) := by
    show ((s, (), (), (), (), (), (m : Int) - (k : Int), (), ()), (c0, lst oneE, lst x, lst b, lst z, lst (sqN (pS s) b ((m : Int) - (k : Int) - 1).toNat), ())) = _
    rw [hk2]
  have hok : r2sqrt_ok2 ((s, (), (), (), (), (), (m : Int) - (k : Int), (), 1, ()), (c0, lst oneE, lst x, lst b, lst z, lst b, ())) = true :=
    (Bool.and_eq_true _ _).mpr ⟨hs, decide_eq_true (p := (1 : Int) = 1 ∧ (m : Int) - (k : Int) ≤ 1000 ∧ (lst b).length = 4) ⟨rfl, by omega, rfl⟩⟩
  have hb : [List.getD (lst b) 0 0, List.getD (lst b) 1 0, List.getD (lst b) 2 0, List.getD (lst b) 3 0] = lst b := rfl
  have hpre : ∀ x y, r2mul_pre ((s, x, y, ()), ()) = true := fun _ _ => hs
  show (r2sqrt_T0 r2sqrt_ok2 r2sqrt_g2 s ((m : Int) - (k : Int)) c0 (lst oneE) (lst x) (lst b) (lst z)).run = _
  unfold r2sqrt_T0
  simp only [hb, hg, hok]
  refine (OT.run_t (decide_eq_true (by omega))).trans ((gd_run rfl).trans ?_)
  unfold tonStep
  dsimp only
  rw [e2]
  generalize sqN (pS s) b (m - k - 1) = t
  rcases (Bool.eq_false_or_eq_true (eqE t oneE)).symm with h | h
  · refine (OT.run_t (b := !eqE t oneE) (by rw [h]; rfl)).trans ((gd_run ?_).trans ?_)
    · simp only [set4, get4, lst_length, hpre, hi, List.all_cons, List.all_nil, Bool.and_true, Bool.and_eq_true]
      exact ⟨rfl, rfl, trivial, rfl, rfl, rfl, rfl, trivial, trivial, rfl, rfl, rfl, trivial, rfl⟩
    · rw [h]
      simp only [set4, get4]
      rfl
  · refine (OT.run_f (b := !eqE t oneE) (by rw [h]; rfl)).trans ((gd_run ?_).trans ?_)
    · simp only [set4, get4, lst_length, hpre, hi, List.all_cons, List.all_nil, Bool.and_true, Bool.and_eq_true]
      exact ⟨rfl, rfl, trivial, rfl⟩
    · rw [h]
      simp only [set4, get4]
      rfl
def tonN (p m : Nat) (w : Ton) : Ton := upto (tonStep p m) w m
def r2sqrt_ok0 (s : r2sqrt_s0X) : Bool := sortOk s.1.1 && decide (0 ≤ s.1.2.2.2.2.2.2.1 ∧ s.1.2.2.2.2.2.2.1 ≤ 1000 ∧ s.2.2.1 = [1, 0, 0, 0] ∧ s.2.2.2.1.length = 4 ∧ s.2.2.2.2.1.length = 4 ∧ s.2.2.2.2.2.1.length = 4)
def r2sqrt_g0 (s : r2sqrt_s0X) : r2sqrt_e0_0X := ((s.1.1, (), (), ()), (s.2.1, lst (tonN (pS s.1.1) s.1.2.2.2.2.2.2.1.toNat (elemOf s.2.2.2.1, elemOf s.2.2.2.2.1, elemOf s.2.2.2.2.2.1)).1, ()))
theorem r2sqrt_h0 : ∀ s : r2sqrt_s0X, r2sqrt_ok0 s = true → ∃ m e, loopRun (r2sqrt_U0 r2sqrt_ok2 r2sqrt_g2) m s = some e ∧ (r2sqrt_f0 r2sqrt_g0 s).run = some e := by
  rintro ⟨⟨s, ⟨⟩, ⟨⟩, ⟨⟩, ⟨⟩, ⟨⟩, i, ⟨⟩⟩, ⟨c0, c1, c2, c3, c4, ⟨⟩⟩⟩ h
  simp only [r2sqrt_ok0, Bool.and_eq_true, decide_eq_true_eq] at h
  obtain ⟨hs, h0, h1, rfl, h2, h3, h4⟩ := h
  obtain ⟨x, rfl⟩ : ∃ a, c2 = lst a := ⟨elemOf c2, (lst_elemOf h2).symm⟩
  obtain ⟨b, rfl⟩ : ∃ a, c3 = lst a := ⟨elemOf c3, (lst_elemOf h3).symm⟩
  obtain ⟨z, rfl⟩ : ∃ a, c4 = lst a := ⟨elemOf c4, (lst_elemOf h4).symm⟩
  obtain ⟨m, rfl⟩ : ∃ m : Nat, i = (m : Int) := ⟨i.toNat, by omega⟩
  have := (loop_upto (T := r2sqrt_U0 r2sqrt_ok2 r2sqrt_g2) (fun k w => ton_st s c0 ((m : Int) - (k : Int)) w) (tonStep (pS s) m)
    (fun w => (⟨(.exit 0, r2sqrt_e0_0), ((s, (), (), ()), (c0, lst w.1, ()))⟩ : LEnd)) m (x, b, z) (fun _ _ => True) trivial (fun k w hk _ => ⟨ton_step hs c0 (by omega) hk w, trivial⟩) (fun w _ => ?_)).1
  · obtain ⟨n, hn⟩ := this
    refine ⟨n, _, ?_, rfl⟩
    have e : ton_st s c0 ((m : Int) - ((0 : Nat) : Int)) (x, b, z) = ((s, (), (), (), (), (), (m : Int), ()), (c0, [1, 0, 0, 0], lst x, lst b, lst z, ())) := by
      rw [show (m : Int) - ((0 : Nat) : Int) = (m : Int) by omega]
      rfl
    rw [e] at hn
    exact hn
  · exact OT.run_f (decide_eq_false (by dsimp only [ton_st]; omega))
def rootX (s : Int) (a : Elem) : Elem := (tonN (pS s) ((numOf s.toNat).2.1 - 1).toNat
  (expP (pS s) a (halfE (wsum (halvesE (wdif (numOf s.toNat).1 oneE).1 (numOf s.toNat).2.1.toNat) oneE).1), expP (pS s) a (halvesE (wdif (numOf s.toNat).1 oneE).1 (numOf s.toNat).2.1.toNat), expP (pS s) ⟨5, 0, 0, 0⟩ (halvesE (wdif (numOf s.toNat).1 oneE).1 (numOf s.toNat).2.1.toNat))).1
def evenX (p : Nat) (x : Elem) : Elem := cond (x.w0 % 2 == 1) (negP p x) x
def r2sqrt_pre (x : r2sqrtX) : Bool := sortOk x.1.1
def r2sqrt_F (x : r2sqrtX) : OT r2sqrt_S.Y := .br (zeroE (ofP (pS x.1.1) x.1.2.1)) (.ok ⟨r2sqrt_o0, ((⟨0, 0, 0, 0⟩, ((0 : Int), ())), ())⟩)
  (.br (eqE (expP (pS x.1.1) (ofP (pS x.1.1) x.1.2.1) (halfE (wdif (numOf x.1.1.toNat).1 oneE).1)) oneE) (.ok ⟨r2sqrt_o0, ((evenX (pS x.1.1) (rootX x.1.1 (ofP (pS x.1.1) x.1.2.1)), ((0 : Int), ())), ())⟩) (.ok ⟨r2sqrt_o0, ((⟨0, 0, 0, 0⟩, ((22 : Int), ())), ())⟩))
theorem adi_of {s : Int} (hs : sortOk s = true) : 1 ≤ (numOf s.toNat).2.1 ∧ (numOf s.toNat).2.1 ≤ 32 := by
  rcases sortOk_cases hs with rfl | rfl | rfl | rfl <;> decide
theorem r2sqrt_ok : SummOk Try.prog 71 (r2sqrt_S.summ r2sqrt_pre r2sqrt_F) := r2sqrt_main r2sqrt_ok2 r2sqrt_g2 r2sqrt_ok0 r2sqrt_g0 r2sqrt_h2 r2sqrt_h0 _ _ fun x oy hp ho => by
  rw [← ho]
  clear ho
  obtain ⟨⟨s, a, ⟨⟩⟩, ⟨⟩⟩ := x
  have hs : sortOk s = true := hp
  have had := adi_of hs
  show _ = (OT.br (zeroE (ofP (pS s) a)) (.ok ⟨r2sqrt_o0, ((⟨0, 0, 0, 0⟩, ((0 : Int), ())), ())⟩) (.br (eqE (expP (pS s) (ofP (pS s) a) (halfE (wdif (numOf s.toNat).1 oneE).1)) oneE) (.ok ⟨r2sqrt_o0, ((evenX (pS s) (rootX s (ofP (pS s) a)), ((0 : Int), ())), ())⟩) (.ok ⟨r2sqrt_o0, ((⟨0, 0, 0, 0⟩, ((22 : Int), ())), ())⟩)) : OT r2sqrt_S.Y).run
  refine (gd_run ?_).trans ?_
  · simp only [List.all_cons, List.all_nil, Bool.and_true, Bool.and_eq_true]
    exact ⟨hs, hs⟩
  generalize hA : ofP (pS s) a = A
  rcases (Bool.eq_false_or_eq_true (zeroE A)).symm with hz | hz
  · refine Eq.trans ?_ (OT.run_f (b := zeroE A) hz).symm
    refine (OT.run_f hz).trans ((gd_run ?_).trans ?_)
    · simp only [List.all_cons, List.all_nil, Bool.and_true]
      exact hs
    · rcases (Bool.eq_false_or_eq_true (eqE (expP (pS s) A (halfE (wdif (numOf s.toNat).1 oneE).1)) oneE)).symm with h1 | h1
      · refine Eq.trans ?_ (OT.run_f h1).symm
        exact OT.run_t (b := !eqE (expP (pS s) A (halfE (wdif (numOf s.toNat).1 oneE).1)) oneE) (by rw [h1]; rfl)
      · refine Eq.trans ?_ (OT.run_t h1).symm
        refine (OT.run_f (b := !eqE (expP (pS s) A (halfE (wdif (numOf s.toNat).1 oneE).1)) oneE) (by rw [h1]; rfl)).trans ((gd_run ?_).trans ?_)
        · simp only [List.all_cons, List.all_nil, Bool.and_true, Bool.and_eq_true]
          refine ⟨hs, decide_eq_true ⟨(by show 0 ≤ (numOf s.toNat).2.1; omega), (by show (numOf s.toNat).2.1 ≤ 1000000; omega)⟩, hs, hs, hs, inR_of (by omega), (Bool.and_eq_true _ _).mpr ⟨hs, ?_⟩, rfl⟩
          exact decide_eq_true ⟨(by show 0 ≤ (numOf s.toNat).2.1 - 1; omega), (by show (numOf s.toNat).2.1 - 1 ≤ 1000; omega), rfl, rfl, rfl, rfl⟩
        · have hg : ∀ w x b z : Elem, (r2sqrt_g0 ((s, (), (), (), (), (), (numOf s.toNat).2.1 - 1, ()), ([0, 0, 0, 0], [1, 0, 0, 0], [x.w0, x.w1, x.w2, x.w3], [b.w0, b.w1, b.w2, b.w3], [z.w0, z.w1, z.w2, z.w3], ()))) = ((s, (), (), ()), ([0, 0, 0, 0], lst (tonN (pS s) ((numOf s.toNat).2.1 - 1).toNat (x, b, z)).1, ())) := fun _ _ _ _ => rfl
          simp only [hg oneE]
          have hR : (tonN (pS s) ((numOf s.toNat).2.1 - 1).toNat (expP (pS s) A (halfE (wsum (halvesE (wdif (numOf s.toNat).1 ⟨1, 0, 0, 0⟩).1 (numOf s.toNat).2.1.toNat) ⟨1, 0, 0, 0⟩).1), expP (pS s) A (halvesE (wdif (numOf s.toNat).1 ⟨1, 0, 0, 0⟩).1 (numOf s.toNat).2.1.toNat), expP (pS s) ⟨5, 0, 0, 0⟩ (halvesE (wdif (numOf s.toNat).1 ⟨1, 0, 0, 0⟩).1 (numOf s.toNat).2.1.toNat))).1 = rootX s A := rfl
          simp only [hR]
          generalize rootX s A = R
          rcases (Bool.eq_false_or_eq_true (R.w0 % 2 == 1)).symm with h2 | h2
          · have e : evenX (pS s) R = R := by unfold evenX; rw [h2]; rfl
            rw [e]
            exact (OT.run_f h2).trans ((gd_run rfl).trans rfl)
          · have e : evenX (pS s) R = negP (pS s) R := by unfold evenX; rw [h2]; rfl
            rw [e]
            refine (OT.run_t h2).trans ((gd_run ?_).trans rfl)
            simp only [List.all_cons, List.all_nil, Bool.and_true, Bool.and_eq_true]
            exact ⟨rfl, hs, rfl, rfl, rfl, rfl⟩
  · exact (OT.run_t hz).trans (OT.run_t (b := zeroE A) hz).symm
def r2sqrt_summ : Summ := (r2sqrt_S.summ r2sqrt_pre r2sqrt_F)
theorem r2sqrt_known : SummOk Try.prog 71 r2sqrt_summ := r2sqrt_ok
theorem r2sqrt_smono : MonoOk r2sqrt_summ := fn_mono
def E_r2sqrt : Env := envCons 71 r2sqrt_summ E_r4mul
theorem E_r2sqrt_ok : EnvOk Try.prog E_r2sqrt := envOk_cons r2sqrt_known E_r4mul_ok
theorem E_r2sqrt_mono : EnvMono E_r2sqrt := envMono_cons r2sqrt_smono E_r4mul_mono
theorem E_r2sqrt_any : AnyOk Try.prog te E_r2sqrt := any_ok follows te_ok E_r2sqrt_ok E_r2sqrt_mono
def r2int_S : FnSpec := ⟨[.val false .int, .val false .int], [], true, 0, false⟩
abbrev r2intX : Type := ((Int) × (Int) × Unit) × (Unit)
def r2int_o0 : OutSh := ⟨[.val true .elem], [], false⟩
def r2int_sel : SV → Option OutSh := fun _ => some r2int_o0
def r2int_T (a0 : Int) (a1 : Int) : OT r2int_S.Y :=
  let z0 : UInt64 := i2u a1
  let z1 : Elem := { w0 := z0, w1 := 0, w2 := 0, w3 := 0 }
  let z2 : Nat := pS a0
  let z3 : Elem := { w0 := 0 - z0, w1 := 0, w2 := 0, w3 := 0 }
  (.br (decide ((0 : Int) ≤ a1))
  (gd [r2ofn_pre ((a0, z1, ()), ())] (.ok ⟨r2int_o0, ((ofP z2 z1, ()), ())⟩))
  (gd [r2neg_pre ((a0, z3, ()), ())] (.ok ⟨r2int_o0, ((negP z2 z3, ()), ())⟩)))
theorem r2int_q (x : r2intX) (Q : r2int_S.Y → Prop) : wpf te E_r2sqrt lamNil 1000 Try.f74 (r2int_S.inp.inj x).tm (r2int_S.inp.inj x).hp (fnK r2int_S r2int_sel Q) (fun _ _ => False) = (r2int_T (x.1.1) (x.1.2.1)).wpR Q := by kernel_rfl
theorem r2int_main (pre : r2intX → Bool) (F : r2intX → OT r2int_S.Y) (hF : ∀ (x : r2intX) oy, pre x = true → (F x).run = some oy → (r2int_T (x.1.1) (x.1.2.1)).run = some oy) : SummOk Try.prog 74 (r2int_S.summ pre F) :=
  fn_tree te_ok E_r2sqrt_ok E_r2sqrt_any (f := 74) (fn := Try.f74) (c := codeOf Try.f74) (by kernel_rfl) (by kernel_rfl) (by kernel_rfl) (S := r2int_S) (k := 0) (by kernel_rfl) (fun R hR => lamOk_nil) (n := 1000) (sel := r2int_sel) (fun v o h => by cases h; rfl) (pre := pre) (F := F) (T := fun x => r2int_T (x.1.1) (x.1.2.1)) (fun x Q => r2int_q x Q) hF
def intP (p : Nat) (n : Int) : Elem := cond (decide (0 ≤ n)) (ofP p ⟨i2u n, 0, 0, 0⟩) (negP p ⟨0 - i2u n, 0, 0, 0⟩)
def r2int_pre (x : r2intX) : Bool := sortOk x.1.1
def r2int_F (x : r2intX) : OT r2int_S.Y := .ok ⟨r2int_o0, ((intP (pS x.1.1) x.1.2.1, ()), ())⟩
theorem r2int_ok : SummOk Try.prog 74 (r2int_S.summ r2int_pre r2int_F) := r2int_main _ _ fun x oy hp ho => by
  rw [← ho]
  clear ho
  obtain ⟨⟨s, n, ⟨⟩⟩, ⟨⟩⟩ := x
  have hs : sortOk s = true := hp
  show _ = some (⟨r2int_o0, ((intP (pS s) n, ()), ())⟩ : r2int_S.Y)
  unfold intP
  rcases (Bool.eq_false_or_eq_true (decide ((0 : Int) ≤ n))).symm with h | h
  · rw [h]
    refine (OT.run_f h).trans ((gd_run ?_).trans rfl)
    simp only [List.all_cons, List.all_nil, Bool.and_true]
    exact hs
  · rw [h]
    refine (OT.run_t h).trans ((gd_run ?_).trans rfl)
    simp only [List.all_cons, List.all_nil, Bool.and_true]
    exact hs
def r2int_summ : Summ := (r2int_S.summ r2int_pre r2int_F)
theorem r2int_known : SummOk Try.prog 74 r2int_summ := r2int_ok
theorem r2int_smono : MonoOk r2int_summ := fn_mono
def E_r2int : Env := envCons 74 r2int_summ E_r2sqrt
theorem E_r2int_ok : EnvOk Try.prog E_r2int := envOk_cons r2int_known E_r2sqrt_ok
theorem E_r2int_mono : EnvMono E_r2int := envMono_cons r2int_smono E_r2sqrt_mono
theorem E_r2int_any : AnyOk Try.prog te E_r2int := any_ok follows te_ok E_r2int_ok E_r2int_mono
def r4some_S : FnSpec := ⟨[.val false .int, .val false .int], [], true, 0, false⟩
abbrev r4someX : Type := ((Int) × (Int) × Unit) × (Unit)
def r4some_s0 : Shape := ⟨38, [(0, .val false .int), (1, .val false .int), (4, .ptr 0 0 0)], [(0, .cells [.val false .u64, .val false .u64, .val false .u64, .val false .u64, .val false .u64, .val false .u64, .val false .u64, .val false .u64, .val false .bool])], 0, true⟩
abbrev r4some_s0X : Type := ((Int) × (Int) × (Unit) × Unit) × (((UInt64) × (UInt64) × (UInt64) × (UInt64) × (UInt64) × (UInt64) × (UInt64) × (UInt64) × (Bool) × Unit) × Unit)
def r4some_e0_r : Shape := ⟨38, [(4, .ptr 0 0 0)], [(0, .cells [.val false .u64, .val false .u64, .val false .u64, .val false .u64, .val false .u64, .val false .u64, .val false .u64, .val false .u64, .val false .bool])], 0, true⟩
abbrev r4some_e0_rX : Type := ((Unit) × Unit) × (((UInt64) × (UInt64) × (UInt64) × (UInt64) × (UInt64) × (UInt64) × (UInt64) × (UInt64) × (Bool) × Unit) × Unit)
def r4some_x0 : SE → Option Shape := xsMk [] (some r4some_e0_r)
def r4some_T0 (a0 : Int) (a1 : Int) (c0_0 : UInt64) (c0_1 : UInt64) (c0_2 : UInt64) (c0_3 : UInt64) (c0_4 : UInt64) (c0_5 : UInt64) (c0_6 : UInt64) (c0_7 : UInt64) (c0_8 : Bool) : OT (Sum r4some_s0X LEnd) :=
  let z0 : Nat := pS a0
  let z1 : Elem := intP z0 a1
  let z2 : Elem := cubeP z0 z1 (bS a0)
  let z3 : Elem := ofP z0 z2
  let z4 : Bool := inR (a1 + (1 : Int))
  let z5 : Elem := evenX z0 (rootX a0 z3)
  let z6 := z5.w0
  let z7 := z5.w1
  let z8 := z5.w2
  let z9 := z5.w3
  let z10 := z1.w0
  let z11 := z1.w1
  let z12 := z1.w2
  let z13 := z1.w3
  (gd [r2int_pre ((a0, a1, ()), ()), r4cube_pre ((a0, z1, ()), ()), r2sqrt_pre ((a0, z2, ()), ())] (.br (zeroE z3)
  (gd [z4] (.ok (.inl ((a0, (a1 + (1 : Int), ((), ()))), ((c0_0, (c0_1, (c0_2, (c0_3, (c0_4, (c0_5, (c0_6, (c0_7, (c0_8, ()))))))))), ())))))
  (.br (eqE (expP z0 z3 (halfE (wdif (numOf (Int.toNat a0)).fst oneE).fst)) oneE)
    (.br (!(z6 == (0 : UInt64) && (z7 == (0 : UInt64) && (z8 == (0 : UInt64) && (z9 == (0 : UInt64) && true)))))
      (.br (!(z10 == (0 : UInt64) && (z11 == (0 : UInt64) && (z12 == (0 : UInt64) && (z13 == (0 : UInt64) && true)))))
        (.ok (.inr ⟨(.ret, r4some_e0_r), (((), ()), ((z10, (z11, (z12, (z13, (z6, (z7, (z8, (z9, (false, ()))))))))), ()))⟩))
        (gd [z4] (.ok (.inl ((a0, (a1 + (1 : Int), ((), ()))), ((c0_0, (c0_1, (c0_2, (c0_3, (c0_4, (c0_5, (c0_6, (c0_7, (c0_8, ()))))))))), ()))))))
      (gd [z4] (.ok (.inl ((a0, (a1 + (1 : Int), ((), ()))), ((c0_0, (c0_1, (c0_2, (c0_3, (c0_4, (c0_5, (c0_6, (c0_7, (c0_8, ()))))))))), ()))))))
    (gd [z4] (.ok (.inl ((a0, (a1 + (1 : Int), ((), ()))), ((c0_0, (c0_1, (c0_2, (c0_3, (c0_4, (c0_5, (c0_6, (c0_7, (c0_8, ()))))))))), ()))))))))
def r4some_U0 (s : r4some_s0X) : OT (Sum r4some_s0X LEnd) := r4some_T0 (s.1.1) (s.1.2.1) (s.2.1.1) (s.2.1.2.1) (s.2.1.2.2.1) (s.2.1.2.2.2.1) (s.2.1.2.2.2.2.1) (s.2.1.2.2.2.2.2.1) (s.2.1.2.2.2.2.2.2.1) (s.2.1.2.2.2.2.2.2.2.1) (s.2.1.2.2.2.2.2.2.2.2.1)
theorem r4some_q0 (s : r4some_s0X) (Q : Sum r4some_s0X LEnd → Prop) : wps te E_r2int lamNil 1000 (loopOf (codeOf Try.f41) 0) (r4some_s0.inj s) (stepK r4some_s0 r4some_x0 (Q : Sum r4some_s0.T LEnd → Prop)) = (r4some_U0 s).wpR Q := by kernel_rfl
def r4some_f0 (g0_r : r4some_s0X → r4some_e0_rX) (s : r4some_s0X) : OT LEnd := (.ok ⟨(.ret, r4some_e0_r), g0_r s⟩)
def r4some_o0 : OutSh := ⟨[.val true (.prod .elem (.prod .elem .bool))], [], false⟩
def r4some_sel : SV → Option OutSh := fun _ => some r4some_o0
def r4some_T (ok0 : r4some_s0X → Bool) (g0_r : r4some_s0X → r4some_e0_rX) (a0 : Int) (a1 : Int) : OT r4some_S.Y :=
  let z0 : (Int × Int × PUnit × PUnit) × (UInt64 × UInt64 × UInt64 × UInt64 × UInt64 × UInt64 × UInt64 × UInt64 × Bool × PUnit) × PUnit := ((a0, a1, (), ()), ((0 : UInt64), (0 : UInt64), (0 : UInt64), (0 : UInt64), (0 : UInt64), (0 : UInt64), (0 : UInt64), (0 : UInt64), false, ()), ())
  let z1 := (g0_r z0).snd.fst
  let z2 := z1.snd
  let z3 := z2.snd
  let z4 := z3.snd
  let z5 := z4.snd
  let z6 := z5.snd
  let z7 := z6.snd
  let z8 := z7.snd
  (gd [ok0 z0] (.ok ⟨r4some_o0, ((({ w0 := z1.fst, w1 := z2.fst, w2 := z3.fst, w3 := z4.fst }, { w0 := z5.fst, w1 := z6.fst, w2 := z7.fst, w3 := z8.fst }, z8.snd.fst), ()), ())⟩))
theorem r4some_q (ok0 : r4some_s0X → Bool) (g0_r : r4some_s0X → r4some_e0_rX) (x : r4someX) (Q : r4some_S.Y → Prop) : wpf te E_r2int (lamCons 0 (loopF r4some_s0 0 ok0 (r4some_f0 g0_r)) lamNil) 1000 Try.f41 (r4some_S.inp.inj x).tm (r4some_S.inp.inj x).hp (fnK r4some_S r4some_sel Q) (fun _ _ => False) = (r4some_T ok0 g0_r (x.1.1) (x.1.2.1)).wpR Q := by kernel_rfl
theorem r4some_main (ok0 : r4some_s0X → Bool) (g0_r : r4some_s0X → r4some_e0_rX) (h0 : ∀ s : r4some_s0X, ok0 s = true → ∃ m e, loopRun (r4some_U0) m s = some e ∧ (r4some_f0 g0_r s).run = some e) (pre : r4someX → Bool) (F : r4someX → OT r4some_S.Y) (hF : ∀ (x : r4someX) oy, pre x = true → (F x).run = some oy → (r4some_T ok0 g0_r (x.1.1) (x.1.2.1)).run = some oy) : SummOk Try.prog 41 (r4some_S.summ pre F) :=
  fn_tree te_ok E_r2int_ok E_r2int_any (f := 41) (fn := Try.f41) (c := codeOf Try.f41) (by kernel_rfl) (by kernel_rfl) (by kernel_rfl) (S := r4some_S) (k := 0) (by kernel_rfl) (fun R hR => (lamOk_cons (c := (codeOf Try.f41)) (by kernel_rfl) (id := 0) (by kernel_rfl) (loop_ok te_ok E_r2int_ok E_r2int_any (sh := r4some_s0) hR (xs := r4some_x0) (xsMk_small (by kernel_rfl) (by kernel_rfl) hR) xsMk_pan lamOk_nil (n := 1000) (T := r4some_U0) (fun s Q => r4some_q0 s Q) (ok := ok0) (f := r4some_f0 g0_r) h0) lamOk_nil)) (n := 1000) (sel := r4some_sel) (fun v o h => by cases h; rfl) (pre := pre) (F := F) (T := fun x => r4some_T ok0 g0_r (x.1.1) (x.1.2.1)) (fun x Q => r4some_q ok0 g0_r x Q) hF
def someX (s n : Int) : Elem := intP (pS s) n
def someA (s n : Int) : Elem := ofP (pS s) (cubeP (pS s) (someX s n) (bS s))
def someY (s n : Int) : Elem := evenX (pS s) (rootX s (someA s n))
def someOne (s n : Int) : Option Pt := cond (zeroE (someA s n)) none (cond (eqE (expP (pS s) (someA s n) (halfE (wdif (numOf s.toNat).1 oneE).1)) oneE)
  (cond (zeroE (someY s n)) none (cond (zeroE (someX s n)) none (some (someX s n, someY s n, false)))) none)
def someFrom (s : Int) : Nat → Int → Option Pt
  | 0, _ => none
  | k + 1, n => match someOne s n with
    | some P => some P
    | none => someFrom s k (n + 1)
def some_st (s n : Int) (c : C9) : r4some_s0X := ((s, n, (), ()), (c, ()))
theorem some_step {s n : Int} (hs : sortOk s = true) (h0 : 0 ≤ n) (h1 : n ≤ 1000000) (c : C9) :
    (r4some_U0 (some_st s n c)).run = match someOne s n with
      | some P => some (.inr ⟨(.ret, r4some_e0_r), (((), ()), (flatP P, ()))⟩)
      | none => some (.inl (some_st s (n + 1) c)) := by
  have hi : inR (n + 1) = true := inR_of (by omega)
  have hgd : ∀ z : OT (Sum r4some_s0X LEnd), (gd [inR (n + 1)] z).run = z.run := fun z => gd_run (by simp only [hi, List.all_cons, List.all_nil, Bool.and_true])
  refine (gd_run (by simp only [List.all_cons, List.all_nil, Bool.and_true, Bool.and_eq_true]; exact ⟨hs, hs, hs⟩)).trans ?_
  unfold someOne
  rcases (Bool.eq_false_or_eq_true (zeroE (someA s n))).symm with h1 | h1
  · refine (OT.run_f (b := zeroE (someA s n)) h1).trans ?_
    rcases (Bool.eq_false_or_eq_true (eqE (expP (pS s) (someA s n) (halfE (wdif (numOf s.toNat).1 oneE).1)) oneE)).symm with h2 | h2
    · rw [h1, h2]
      exact (OT.run_f h2).trans (hgd _)
    · refine (OT.run_t h2).trans ?_
      rcases (Bool.eq_false_or_eq_true (zeroE (someY s n))).symm with h3 | h3
      · refine (OT.run_t (b := !zeroE (someY s n)) (by rw [h3]; rfl)).trans ?_
        rcases (Bool.eq_false_or_eq_true (zeroE (someX s n))).symm with h4 | h4
        · rw [h1, h2, h3, h4]
          exact OT.run_t (b := !zeroE (someX s n)) (by rw [h4]; rfl)
        · rw [h1, h2, h3, h4]
          exact (OT.run_f (b := !zeroE (someX s n)) (by rw [h4]; rfl)).trans (hgd _)
      · rw [h1, h2, h3]
        exact (OT.run_f (b := !zeroE (someY s n)) (by rw [h3]; rfl)).trans (hgd _)
  · rw [h1]
    exact (OT.run_t (b := zeroE (someA s n)) h1).trans (hgd _)
theorem some_loop {s : Int} (hs : sortOk s = true) (c : C9) {P : Pt} : ∀ (k : Nat) (n : Int), 0 ≤ n → n + k ≤ 1000000 → someFrom s k n = some P →
    ∃ m, loopRun r4some_U0 m (some_st s n c) = some ⟨(.ret, r4some_e0_r), (((), ()), (flatP P, ()))⟩
  | 0, _, _, _, h => by cases h
  | k + 1, n, h0, h1, h => by
    have hst := some_step hs h0 (by omega) c
    unfold someFrom at h
    cases ho : someOne s n with
    | some Q =>
      rw [ho] at h hst
      obtain rfl := Option.some.inj h
      exact ⟨1, loopRun_out hst⟩
    | none =>
      rw [ho] at h hst
      obtain ⟨m, hm⟩ := some_loop hs c k (n + 1) (by omega) (by omega) h
      exact ⟨m + 1, loopRun_more hst hm⟩
def someFuel : Nat := 2000
def r4some_ok0 (s : r4some_s0X) : Bool := sortOk s.1.1 && decide (0 ≤ s.1.2.1 ∧ s.1.2.1 ≤ 2000) && (someFrom s.1.1 someFuel s.1.2.1).isSome
def somePt (s n : Int) : Pt := (someFrom s someFuel n).getD inftyP
def r4some_g0 (s : r4some_s0X) : r4some_e0_rX := (((), ()), (flatP (somePt s.1.1 s.1.2.1), ()))
theorem r4some_h0 : ∀ s : r4some_s0X, r4some_ok0 s = true → ∃ m e, loopRun r4some_U0 m s = some e ∧ (r4some_f0 r4some_g0 s).run = some e := by
  rintro ⟨⟨s, n, ⟨⟩, ⟨⟩⟩, ⟨c, ⟨⟩⟩⟩ h
  simp only [r4some_ok0, Bool.and_eq_true, decide_eq_true_eq] at h
  obtain ⟨⟨hs, h0, h1⟩, h2⟩ := h
  obtain ⟨P, hP⟩ := Option.isSome_iff_exists.1 h2
  obtain ⟨m, hm⟩ := some_loop hs c someFuel n h0 (by show n + ((2000 : Nat) : Int) ≤ _; omega) hP
  refine ⟨m, _, hm, ?_⟩
  show some (⟨(.ret, r4some_e0_r), (((), ()), (flatP ((someFrom s someFuel n).getD inftyP), ()))⟩ : LEnd) = _
  rw [hP]
  rfl
def r4some_pre (x : r4someX) : Bool := sortOk x.1.1 && decide (0 ≤ x.1.2.1 ∧ x.1.2.1 ≤ 2000) && (someFrom x.1.1 someFuel x.1.2.1).isSome
def r4some_F (x : r4someX) : OT r4some_S.Y := .ok ⟨r4some_o0, ((somePt x.1.1 x.1.2.1, ()), ())⟩
theorem r4some_ok : SummOk Try.prog 41 (r4some_S.summ r4some_pre r4some_F) := r4some_main r4some_ok0 r4some_g0 r4some_h0 _ _ fun x oy hp ho => by
  rw [← ho]
  clear ho
  obtain ⟨⟨s, n, ⟨⟩⟩, ⟨⟩⟩ := x
  refine (gd_run ?_).trans rfl
  simp only [List.all_cons, List.all_nil, Bool.and_true]
  exact hp
def r4some_summ : Summ := (r4some_S.summ r4some_pre r4some_F)
theorem r4some_known : SummOk Try.prog 41 r4some_summ := r4some_ok
theorem r4some_smono : MonoOk r4some_summ := fn_mono
def E_r4some : Env := envCons 41 r4some_summ E_r2int
theorem E_r4some_ok : EnvOk Try.prog E_r4some := envOk_cons r4some_known E_r2int_ok
theorem E_r4some_mono : EnvMono E_r4some := envMono_cons r4some_smono E_r2int_mono
theorem E_r4some_any : AnyOk Try.prog te E_r4some := any_ok follows te_ok E_r4some_ok E_r4some_mono
def fnumber_S : FnSpec := ⟨[.val false (.list .u8)], [], true, 0, false⟩
abbrev fnumberX : Type := ((List (UInt8)) × Unit) × (Unit)
def fnumber_s0 : Shape := ⟨27, [(2, .ptr 0 0 0), (3, .ptr 1 0 0), (6, .val false (.list .u8)), (7, .val false .int), (8, .val false .int)], [(0, .row .u64), (1, .row .u64)], 0, true⟩
abbrev fnumber_s0X : Type := ((Unit) × (Unit) × (List (UInt8)) × (Int) × (Int) × Unit) × ((List (UInt64)) × (List (UInt64)) × Unit)
def fnumber_e0_0 : Shape := ⟨27, [(2, .ptr 0 0 0), (3, .ptr 1 0 0)], [(0, .row .u64), (1, .row .u64)], 0, true⟩
abbrev fnumber_e0_0X : Type := ((Unit) × (Unit) × Unit) × ((List (UInt64)) × (List (UInt64)) × Unit)
def fnumber_x0 : SE → Option Shape := xsMk [(0, fnumber_e0_0)] none
def fnumber_T0 (a6 : List (UInt8)) (a7 : Int) (a8 : Int) (c0 : List (UInt64)) (c1 : List (UInt64)) : OT (Sum fnumber_s0X LEnd) :=
  let z0 : Int := Int.tdiv a8 (8 : Int)
  let z1 : Bool := inB z0 4
  let z2 : Bool := decide (Int.toNat z0 + 0 < List.length c1)
  let z3 : Int := (8 : Int) * Int.tmod a8 (8 : Int)
  (.br (decide (a8 < a7))
  (gd [inB a8 (List.length a6), true && inR z0, z1, z2, inR z3, decide ((0 : Int) ≤ z3), z1, z2, inR (a8 + (1 : Int))] (.ok (.inl (((), ((), (a6, (a7, (a8 + (1 : Int), ()))))), (c0, (List.set c1 (Int.toNat z0 + 0) (List.getD c1 (Int.toNat z0 + 0) (0 : UInt64) ||| shl64 (UInt8.toUInt64 (List.getD a6 (Int.toNat a8) (0 : UInt8))) z3), ()))))))
  (.ok (.inr ⟨(.exit 0, fnumber_e0_0), (((), ((), ())), (c0, (c1, ())))⟩)))
def fnumber_U0 (s : fnumber_s0X) : OT (Sum fnumber_s0X LEnd) := fnumber_T0 (s.1.2.2.1) (s.1.2.2.2.1) (s.1.2.2.2.2.1) (s.2.1) (s.2.2.1)
theorem fnumber_q0 (s : fnumber_s0X) (Q : Sum fnumber_s0X LEnd → Prop) : wps te E_r4some lamNil 1000 (loopOf (codeOf Try.f97) 0) (fnumber_s0.inj s) (stepK fnumber_s0 fnumber_x0 (Q : Sum fnumber_s0.T LEnd → Prop)) = (fnumber_U0 s).wpR Q := by kernel_rfl
def fnumber_f0 (g0_0 : fnumber_s0X → fnumber_e0_0X) (s : fnumber_s0X) : OT LEnd := (.ok ⟨(.exit 0, fnumber_e0_0), g0_0 s⟩)
def fnumber_o0 : OutSh := ⟨[.val true .elem], [], false⟩
def fnumber_sel : SV → Option OutSh := fun _ => some fnumber_o0
def fnumber_T (ok0 : fnumber_s0X → Bool) (g0_0 : fnumber_s0X → fnumber_e0_0X) (a0 : List (UInt8)) : OT fnumber_S.Y :=
  let z0 : (PUnit × PUnit × List UInt8 × Int × Int × PUnit) × List UInt64 × List UInt64 × PUnit := (((), (), a0, (↑(List.length a0) : Int), (0 : Int), ()), [(0 : UInt64), (0 : UInt64), (0 : UInt64), (0 : UInt64)], [(0 : UInt64), (0 : UInt64), (0 : UInt64), (0 : UInt64)], ())
  let z1 := (g0_0 z0).snd
  let z2 := z1.snd.fst
  let z3 := z1.fst
  let z4 : List UInt64 := lay z3 z2 4 (0 : UInt64)
  (gd [ok0 z0, decide (4 ≤ List.length z2), decide ((4 / 1 : Nat) + 0 ≤ List.length z3), decide (4 ≤ List.length z4)] (.ok ⟨fnumber_o0, (({ w0 := List.getD z4 0 0, w1 := List.getD z4 1 0, w2 := List.getD z4 2 0, w3 := List.getD z4 3 0 }, ()), ())⟩))
theorem fnumber_q (ok0 : fnumber_s0X → Bool) (g0_0 : fnumber_s0X → fnumber_e0_0X) (x : fnumberX) (Q : fnumber_S.Y → Prop) : wpf te E_r4some (lamCons 0 (loopF fnumber_s0 0 ok0 (fnumber_f0 g0_0)) lamNil) 1000 Try.f97 (fnumber_S.inp.inj x).tm (fnumber_S.inp.inj x).hp (fnK fnumber_S fnumber_sel Q) (fun _ _ => False) = (fnumber_T ok0 g0_0 (x.1.1)).wpR Q := by kernel_rfl
theorem fnumber_main (ok0 : fnumber_s0X → Bool) (g0_0 : fnumber_s0X → fnumber_e0_0X) (h0 : ∀ s : fnumber_s0X, ok0 s = true → ∃ m e, loopRun (fnumber_U0) m s = some e ∧ (fnumber_f0 g0_0 s).run = some e) (pre : fnumberX → Bool) (F : fnumberX → OT fnumber_S.Y) (hF : ∀ (x : fnumberX) oy, pre x = true → (F x).run = some oy → (fnumber_T ok0 g0_0 (x.1.1)).run = some oy) : SummOk Try.prog 97 (fnumber_S.summ pre F) :=
  fn_tree te_ok E_r4some_ok E_r4some_any (f := 97) (fn := Try.f97) (c := codeOf Try.f97) (by kernel_rfl) (by kernel_rfl) (by kernel_rfl) (S := fnumber_S) (k := 0) (by kernel_rfl) (fun R hR => (lamOk_cons (c := (codeOf Try.f97)) (by kernel_rfl) (id := 0) (by kernel_rfl) (loop_ok te_ok E_r4some_ok E_r4some_any (sh := fnumber_s0) hR (xs := fnumber_x0) (xsMk_small (by kernel_rfl) (by kernel_rfl) hR) xsMk_pan lamOk_nil (n := 1000) (T := fnumber_U0) (fun s Q => fnumber_q0 s Q) (ok := ok0) (f := fnumber_f0 g0_0) h0) lamOk_nil)) (n := 1000) (sel := fnumber_sel) (fun v o h => by cases h; rfl) (pre := pre) (F := F) (T := fun x => fnumber_T ok0 g0_0 (x.1.1)) (fun x Q => fnumber_q ok0 g0_0 x Q) hF
def numStep (b : List UInt8) (k : Nat) (l : List UInt64) : List UInt64 := l.set (k / 8) (l.getD (k / 8) 0 ||| shl64 (UInt8.toUInt64 (b.getD k 0)) (8 * ((k % 8 : Nat) : Int)))
def numL (b : List UInt8) (n : Nat) : List UInt64 := upto (numStep b) [0, 0, 0, 0] n
def numB (b : List UInt8) : Elem := elemOf (numL b 32)
theorem numL_length (b : List UInt8) : ∀ n, (numL b n).length = 4
  | 0 => rfl
  | n + 1 => (List.length_set ..).trans (numL_length b n)
def fnumber_ok0 (s : fnumber_s0X) : Bool := decide (s.1.2.2.1.length = 32 ∧ s.1.2.2.2.1 = 32 ∧ s.1.2.2.2.2.1 = 0 ∧ s.2.2.1 = [0, 0, 0, 0])
def fnumber_g0 (s : fnumber_s0X) : fnumber_e0_0X := (((), (), ()), (s.2.1, numL s.1.2.2.1 32, ()))
theorem num_t (i : Nat) : Int.tdiv (i : Int) 8 = ((i / 8 : Nat) : Int) := by rw [Int.tdiv_eq_ediv_of_nonneg (by omega)]; omega
theorem num_m (i : Nat) : Int.tmod (i : Int) 8 = ((i % 8 : Nat) : Int) := by rw [Int.tmod_eq_emod_of_nonneg (by omega)]; omega
theorem fnumber_h0 : ∀ s : fnumber_s0X, fnumber_ok0 s = true → ∃ m e, loopRun fnumber_U0 m s = some e ∧ (fnumber_f0 fnumber_g0 s).run = some e := by
  rintro ⟨⟨⟨⟩, ⟨⟩, b, n, i, ⟨⟩⟩, ⟨c0, c1, ⟨⟩⟩⟩ h
  have h' := of_decide_eq_true h
  dsimp only at h'
  obtain ⟨hb, rfl, rfl, rfl⟩ := h'
  have := (loop_upto (T := fnumber_U0) (fun i o => ((((), (), b, (32 : Int), (i : Int), ()), (c0, o, ())) : fnumber_s0X)) (numStep b)
    (fun o => (⟨(.exit 0, fnumber_e0_0), (((), (), ()), (c0, o, ()))⟩ : LEnd)) 32 [0, 0, 0, 0] (fun _ o => o.length = 4) rfl (fun i o hi ho => ⟨?_, (List.length_set ..).trans ho⟩) (fun o ho => ?_)).1
  · obtain ⟨m, hm⟩ := this
    exact ⟨m, _, hm, rfl⟩
  · have t1 := num_t i
    have t2 := num_m i
    refine (OT.run_t (decide_eq_true (by dsimp only; omega))).trans ((gd_run ?_).trans ?_)
    · simp only [t1, t2, ho, hb, Int.toNat_natCast, List.all_cons, List.all_nil, Bool.and_true, Bool.true_and, Bool.and_eq_true]
      exact ⟨inB_of (by omega), inR_of (by omega), inB_of (by omega), decide_eq_true (by omega), inR_of (by omega), decide_eq_true (by omega), inB_of (by omega), decide_eq_true (by omega), inR_of (by omega)⟩
    · simp only [OT.run_ok, t1, t2, Int.toNat_natCast, Nat.add_zero]
      rfl
  · exact OT.run_f (decide_eq_false (by dsimp only; omega))
theorem lst_num (b : List UInt8) : lst (numB b) = numL b 32 := lst_elemOf (numL_length b 32)
def fnumber_pre (x : fnumberX) : Bool := decide (x.1.1.length = 32)
def fnumber_F (x : fnumberX) : OT fnumber_S.Y := .ok ⟨fnumber_o0, ((numB x.1.1, ()), ())⟩
abbrev fnumber_z (b : List UInt8) : fnumber_s0X := (((), (), b, (b.length : Int), 0, ()), ([0, 0, 0, 0], [0, 0, 0, 0], ()))
theorem fnumber_T_of {ok0 : fnumber_s0X → Bool} {g0 : fnumber_s0X → fnumber_e0_0X} {b : List UInt8} {L : List UInt64} (hok : ok0 (fnumber_z b) = true)
    (hg : g0 (fnumber_z b) = (((), (), ()), ([0, 0, 0, 0], L, ()))) (hL : L.length = 4) : (fnumber_T ok0 g0 b).run = some ⟨fnumber_o0, ((elemOf L, ()), ())⟩ := by
  have e : lay [0, 0, 0, 0] L 4 0 = L := lay_eq rfl hL
  unfold fnumber_T
  simp only [hg]
  refine (gd_run ?_).trans ?_
  · simp only [e, hL, List.all_cons, List.all_nil, Bool.and_true, Bool.and_eq_true]
    exact ⟨hok, rfl, rfl, rfl⟩
  · rw [e]
    rfl
theorem fnumber_ok : SummOk Try.prog 97 (fnumber_S.summ fnumber_pre fnumber_F) := fnumber_main fnumber_ok0 fnumber_g0 fnumber_h0 _ _ fun x oy hp ho => by
  rw [← ho]
  clear ho
  obtain ⟨⟨b, ⟨⟩⟩, ⟨⟩⟩ := x
  have hb : b.length = 32 := of_decide_eq_true hp
  exact fnumber_T_of (b := b) (L := numL b 32) (decide_eq_true ⟨hb, by show ((b.length : Nat) : Int) = 32; omega, rfl, rfl⟩) rfl (numL_length b 32)
def fnumber_summ : Summ := (fnumber_S.summ fnumber_pre fnumber_F)
theorem fnumber_known : SummOk Try.prog 97 fnumber_summ := fnumber_ok
theorem fnumber_smono : MonoOk fnumber_summ := fn_mono
def E_fnumber : Env := envCons 97 fnumber_summ E_r4some
theorem E_fnumber_ok : EnvOk Try.prog E_fnumber := envOk_cons fnumber_known E_r4some_ok
theorem E_fnumber_mono : EnvMono E_fnumber := envMono_cons fnumber_smono E_r4some_mono
theorem E_fnumber_any : AnyOk Try.prog te E_fnumber := any_ok follows te_ok E_fnumber_ok E_fnumber_mono
def fdecode_S : FnSpec := ⟨[.val false .int, .val false (.list .u8)], [], true, 0, false⟩
abbrev fdecodeX : Type := ((Int) × (List (UInt8)) × Unit) × (Unit)
def fdecode_o0 : OutSh := ⟨[.val true .elem, .val false .int], [], false⟩
def fdecode_sel : SV → Option OutSh := fun _ => some fdecode_o0
def fdecode_T (a0 : Int) (a1 : List (UInt8)) : OT fdecode_S.Y :=
  let z0 : Elem := { w0 := 0, w1 := 0, w2 := 0, w3 := 0 }
  let z1 : Bool := fnumber_pre ((a1, ()), ())
  let z2 : Elem := numB a1
  (.br (sortOk a0)
  (.br (!(↑(List.length a1) : Int) == (32 : Int))
    (.ok ⟨fdecode_o0, ((z0, ((21 : Int), ())), ())⟩)
    (gd [z1] (.br (!Nat.blt (Elem.nat z2) (Elem.nat (numOf (Int.toNat a0)).fst))
      (.ok ⟨fdecode_o0, ((z0, ((21 : Int), ())), ())⟩)
      (gd [z1] (.ok ⟨fdecode_o0, ((z2, ((0 : Int), ())), ())⟩)))))
  (.ok ⟨fdecode_o0, ((z0, ((20 : Int), ())), ())⟩))
theorem fdecode_q (x : fdecodeX) (Q : fdecode_S.Y → Prop) : wpf te E_fnumber lamNil 1000 Try.f68 (fdecode_S.inp.inj x).tm (fdecode_S.inp.inj x).hp (fnK fdecode_S fdecode_sel Q) (fun _ _ => False) = (fdecode_T (x.1.1) (x.1.2.1)).wpR Q := by kernel_rfl
theorem fdecode_main (pre : fdecodeX → Bool) (F : fdecodeX → OT fdecode_S.Y) (hF : ∀ (x : fdecodeX) oy, pre x = true → (F x).run = some oy → (fdecode_T (x.1.1) (x.1.2.1)).run = some oy) : SummOk Try.prog 68 (fdecode_S.summ pre F) :=
  fn_tree te_ok E_fnumber_ok E_fnumber_any (f := 68) (fn := Try.f68) (c := codeOf Try.f68) (by kernel_rfl) (by kernel_rfl) (by kernel_rfl) (S := fdecode_S) (k := 0) (by kernel_rfl) (fun R hR => lamOk_nil) (n := 1000) (sel := fdecode_sel) (fun v o h => by cases h; rfl) (pre := pre) (F := F) (T := fun x => fdecode_T (x.1.1) (x.1.2.1)) (fun x Q => fdecode_q x Q) hF
def len32 (b : List UInt8) : Bool := (b.length : Int) == 32
theorem len32_iff {b : List UInt8} : len32 b = true ↔ b.length = 32 := by
  unfold len32
  rw [beq_iff_eq]
  omega
def fdecode_pre (_ : fdecodeX) : Bool := true
def fdecode_F (x : fdecodeX) : OT fdecode_S.Y := .br (sortOk x.1.1) (.br (len32 x.1.2.1) (.br (Nat.blt (numB x.1.2.1).nat (pS x.1.1)) (.ok ⟨fdecode_o0, ((numB x.1.2.1, ((0 : Int), ())), ())⟩) (.ok ⟨fdecode_o0, ((⟨0, 0, 0, 0⟩, ((21 : Int), ())), ())⟩))
  (.ok ⟨fdecode_o0, ((⟨0, 0, 0, 0⟩, ((21 : Int), ())), ())⟩)) (.ok ⟨fdecode_o0, ((⟨0, 0, 0, 0⟩, ((20 : Int), ())), ())⟩)
theorem fdecode_T_of {s : Int} {b : List UInt8} {N : Elem} (hN : numB b = N) : (fdecode_T s b).run = (OT.br (sortOk s) (.br (len32 b) (.br (Nat.blt N.nat (pS s)) (.ok ⟨fdecode_o0, ((N, ((0 : Int), ())), ())⟩) (.ok ⟨fdecode_o0, ((⟨0, 0, 0, 0⟩, ((21 : Int), ())), ())⟩))
  (.ok ⟨fdecode_o0, ((⟨0, 0, 0, 0⟩, ((21 : Int), ())), ())⟩)) (.ok ⟨fdecode_o0, ((⟨0, 0, 0, 0⟩, ((20 : Int), ())), ())⟩) : OT fdecode_S.Y).run := by
  unfold fdecode_T
  simp only [hN]
  rcases (Bool.eq_false_or_eq_true (sortOk s)).symm with hs | hs
  · exact (OT.run_f hs).trans (OT.run_f (b := sortOk s) hs).symm
  · refine (OT.run_t hs).trans (Eq.trans ?_ (OT.run_t (b := sortOk s) hs).symm)
    rcases (Bool.eq_false_or_eq_true (len32 b)).symm with hl | hl
    · exact (OT.run_t (b := !len32 b) (by rw [hl]; rfl)).trans (OT.run_f (b := len32 b) hl).symm
    · have hp : fnumber_pre ((b, ()), ()) = true := decide_eq_true (len32_iff.1 hl)
      refine (OT.run_f (b := !len32 b) (by rw [hl]; rfl)).trans (Eq.trans ?_ (OT.run_t (b := len32 b) hl).symm)
      rw [hp]
      refine (gd_run rfl).trans ?_
      rcases (Bool.eq_false_or_eq_true (Nat.blt N.nat (pS s))).symm with h | h
      · exact (OT.run_t (b := !Nat.blt N.nat (pS s)) (by rw [h]; rfl)).trans (OT.run_f (b := Nat.blt N.nat (pS s)) h).symm
      · exact (OT.run_f (b := !Nat.blt N.nat (pS s)) (by rw [h]; rfl)).trans ((gd_run rfl).trans (OT.run_t (b := Nat.blt N.nat (pS s)) h).symm)
theorem fdecode_ok : SummOk Try.prog 68 (fdecode_S.summ fdecode_pre fdecode_F) := fdecode_main _ _ fun x oy hp ho => by
  rw [← ho]
  clear ho
  obtain ⟨⟨s, b, ⟨⟩⟩, ⟨⟩⟩ := x
  exact fdecode_T_of rfl
def fdecode_summ : Summ := (fdecode_S.summ fdecode_pre fdecode_F)
theorem fdecode_known : SummOk Try.prog 68 fdecode_summ := fdecode_ok
theorem fdecode_smono : MonoOk fdecode_summ := fn_mono
def E_fdecode : Env := envCons 68 fdecode_summ E_fnumber
theorem E_fdecode_ok : EnvOk Try.prog E_fdecode := envOk_cons fdecode_known E_fnumber_ok
theorem E_fdecode_mono : EnvMono E_fdecode := envMono_cons fdecode_smono E_fnumber_mono
theorem E_fdecode_any : AnyOk Try.prog te E_fdecode := any_ok follows te_ok E_fdecode_ok E_fdecode_mono
abbrev fexpn_S : FnSpec := fexp_S
def fexpn_pre (x : fexpX) : Bool := sortOk x.1.1
def fexpn_F (x : fexpX) : OT fexp_S.Y := .ok ⟨fexp_o0, ((expP (pS x.1.1) x.1.2.1 x.1.2.2.1, ()), ())⟩
theorem fexpn_ok : SummOk Try.prog 100 (fexpn_S.summ fexpn_pre fexpn_F) := summ_narrow (S := fexp_S) fexp_ok fun x oy hp ho => ⟨rfl, (OT.run_t (b := sortOk x.1.1) hp).trans ho⟩
def fexpn_summ : Summ := (fexpn_S.summ fexpn_pre fexpn_F)
theorem fexpn_known : SummOk Try.prog 100 fexpn_summ := fexpn_ok
theorem fexpn_smono : MonoOk fexpn_summ := fn_mono
def E_fexpn : Env := envCons 100 fexpn_summ E_fdecode
theorem E_fexpn_ok : EnvOk Try.prog E_fexpn := envOk_cons fexpn_known E_fdecode_ok
theorem E_fexpn_mono : EnvMono E_fexpn := envMono_cons fexpn_smono E_fdecode_mono
theorem E_fexpn_any : AnyOk Try.prog te E_fexpn := any_ok follows te_ok E_fexpn_ok E_fexpn_mono
end Go.Proofs.Ytkedomfjjahjnaa

namespace Go.Proofs.Ytkedomfjjahjnaa
theorem perm_of_sub {α : Type} [BEq α] [LawfulBEq α] : ∀ {l1 l2 : List α}, l1.Nodup → (∀ x ∈ l1, x ∈ l2) → l2.length ≤ l1.length → l1.Perm l2
  | [], l2, _, _, h => by
    have : l2 = [] := List.length_eq_zero_iff.1 (Nat.le_zero.1 h)
    rw [this]
  | a :: t, l2, hn, hs, hl => by
    have ha : a ∈ l2 := hs a (List.mem_cons_self ..)
    have hp : l2.Perm (a :: l2.erase a) := List.perm_cons_erase ha
    rw [List.nodup_cons] at hn
    have hl2 := List.length_erase_of_mem ha
    have hpos : 0 < l2.length := List.length_pos_of_mem ha
    have ih : t.Perm (l2.erase a) := perm_of_sub hn.2 (fun x hx => by
      have hne : x ≠ a := fun e => hn.1 (e ▸ hx)
      exact (List.mem_erase_of_ne hne).2 (hs x (List.mem_cons_of_mem _ hx))) (by rw [List.length_cons] at hl; omega)
    exact (ih.cons a).trans hp.symm
theorem length_of_sub {α : Type} [BEq α] [LawfulBEq α] : ∀ {l1 l2 : List α}, l1.Nodup → (∀ x ∈ l1, x ∈ l2) → l1.length ≤ l2.length
  | [], l2, _, _ => Nat.zero_le _
  | a :: t, l2, hn, hs => by
    have ha : a ∈ l2 := hs a (List.mem_cons_self ..)
    rw [List.nodup_cons] at hn
    have hl2 := List.length_erase_of_mem ha
    have hpos : 0 < l2.length := List.length_pos_of_mem ha
    have ih := length_of_sub (l2 := l2.erase a) hn.2 (fun x hx => by
      have hne : x ≠ a := fun e => hn.1 (e ▸ hx)
      exact (List.mem_erase_of_ne hne).2 (hs x (List.mem_cons_of_mem _ hx)))
    rw [List.length_cons]
    omega
def Pr (p : Nat) : Prop := 2 ≤ p ∧ ∀ d, d ∣ p → d = 1 ∨ d = p
theorem Pr.pos {p : Nat} (h : Pr p) : 0 < p := by have := h.1; omega
theorem Pr.cop {p a : Nat} (h : Pr p) (ha : ¬ p ∣ a) : Nat.Coprime p a := by
  rcases h.2 (Nat.gcd p a) (Nat.gcd_dvd_left ..) with e | e
  · exact e
  · exact absurd (e ▸ Nat.gcd_dvd_right p a) ha
theorem Pr.euclid {p a b : Nat} (h : Pr p) (hd : p ∣ a * b) : p ∣ a ∨ p ∣ b := by
  by_cases ha : p ∣ a
  · exact .inl ha
  · exact .inr ((h.cop ha).dvd_of_dvd_mul_left hd)
def prodL : List Nat → Nat
  | [] => 1
  | a :: l => a * prodL l
theorem prodL_perm {l1 l2 : List Nat} (h : l1.Perm l2) : prodL l1 = prodL l2 := by
  induction h with
  | nil => rfl
  | cons x _ ih => simp only [prodL, ih]
  | swap x y l => simp only [prodL]; rw [← Nat.mul_assoc, ← Nat.mul_assoc, Nat.mul_comm x y]
  | trans _ _ a b => exact a.trans b
theorem prodL_map (p a : Nat) : ∀ l : List Nat, prodL (l.map fun x => a * x % p) % p = a ^ l.length * prodL l % p
  | [] => by simp [prodL]
  | x :: l => by
    have ih := prodL_map p a l
    simp only [List.map_cons, prodL, List.length_cons]
    rw [Nat.mul_mod, Nat.mod_mod, ih, ← Nat.mul_mod, Nat.pow_succ]
    congr 1
    rw [Nat.mul_assoc, Nat.mul_assoc, Nat.mul_left_comm x]
    rw [Nat.mul_left_comm a]
theorem prodL_not {p : Nat} (h : Pr p) : ∀ l : List Nat, (∀ x ∈ l, ¬ p ∣ x) → ¬ p ∣ prodL l
  | [], _, hd => by
    have := Nat.le_of_dvd (by decide) hd
    have := h.1
    simp only [prodL] at *
    omega
  | x :: l, hx, hd => by
    rcases h.euclid hd with h1 | h1
    · exact hx x (List.mem_cons_self ..) h1
    · exact prodL_not h l (fun y hy => hx y (List.mem_cons_of_mem _ hy)) h1
theorem mod_eq_dvd {p a b : Nat} (hab : a ≤ b) (h : a % p = b % p) : p ∣ b - a := by
  have h1 := Nat.div_add_mod a p
  have h2 := Nat.div_add_mod b p
  refine ⟨b / p - a / p, ?_⟩
  rw [Nat.mul_sub]
  omega
theorem not_dvd_small {p x : Nat} (h0 : 0 < x) (h1 : x < p) : ¬ p ∣ x := fun h => by
  have := Nat.le_of_dvd h0 h
  omega
theorem inj_mod {p a : Nat} (h : Pr p) (ha : ¬ p ∣ a) {x y : Nat} (hx : x < p) (hy : y < p) (e : a * x % p = a * y % p) : x = y := by
  have aux : ∀ {x y : Nat}, x < p → y < p → x ≤ y → a * x % p = a * y % p → x = y := fun {x y} hx hy hxy e => by
    have hd := mod_eq_dvd (Nat.mul_le_mul_left a hxy) e
    rw [← Nat.mul_sub] at hd
    rcases h.euclid hd with h1 | h1
    · exact absurd h1 ha
    · by_cases h0 : y - x = 0
      · omega
      · exact absurd h1 (not_dvd_small (by omega) (by omega))
  rcases Nat.le_total x y with hxy | hxy
  · exact aux hx hy hxy e
  · exact (aux hy hx hxy e.symm).symm
theorem nodup_map_of {α β : Type} {f : α → β} : ∀ {l : List α}, l.Nodup → (∀ x ∈ l, ∀ y ∈ l, f x = f y → x = y) → (l.map f).Nodup
  | [], _, _ => List.nodup_nil
  | a :: l, hn, hi => by
    rw [List.nodup_cons] at hn
    rw [List.map_cons, List.nodup_cons]
    refine ⟨fun hm => ?_, nodup_map_of hn.2 fun x hx y hy => hi x (List.mem_cons_of_mem _ hx) y (List.mem_cons_of_mem _ hy)⟩
    obtain ⟨b, hb, e⟩ := List.mem_map.1 hm
    have := hi a (List.mem_cons_self ..) b (List.mem_cons_of_mem _ hb) e.symm
    exact hn.1 (this ▸ hb)
theorem fermat {p a : Nat} (h : Pr p) (ha : ¬ p ∣ a) : a ^ (p - 1) % p = 1 := by
  have hp := h.1
  have hn : (List.range' 1 (p - 1)).Nodup := List.nodup_range' ..
  have hm : ((List.range' 1 (p - 1)).map fun x => a * x % p).Nodup := nodup_map_of hn fun x hx y hy e => by
    rw [List.mem_range'_1] at hx hy
    exact inj_mod h ha (by omega) (by omega) e
  have hperm := perm_of_sub (l2 := List.range' 1 (p - 1)) hm (fun y hy => by
    obtain ⟨x, hx, rfl⟩ := List.mem_map.1 hy
    rw [List.mem_range'_1] at hx ⊢
    have hlt := Nat.mod_lt (a * x) h.pos
    have hne : a * x % p ≠ 0 := fun e => by
      rcases h.euclid (Nat.dvd_of_mod_eq_zero e) with h1 | h1
      · exact ha h1
      · exact not_dvd_small (by omega) (by omega) h1
    omega) (by rw [List.length_map]; exact Nat.le_refl _)
  have e := prodL_map p a (List.range' 1 (p - 1))
  rw [prodL_perm hperm, List.length_range'] at e
  have hnot : ¬ p ∣ prodL (List.range' 1 (p - 1)) := prodL_not h _ fun x hx => by
    rw [List.mem_range'_1] at hx
    exact not_dvd_small (by omega) (by omega)
  have hmul : ∀ z, z * prodL (List.range' 1 (p - 1)) % p = prodL (List.range' 1 (p - 1)) * (z % p) % p := fun z => by
    rw [Nat.mul_comm, Nat.mul_mod_mod]
  rw [hmul] at e
  have e1 : prodL (List.range' 1 (p - 1)) % p = prodL (List.range' 1 (p - 1)) * 1 % p := by rw [Nat.mul_one]
  rw [e1] at e
  exact (inj_mod h hnot (by omega) (Nat.mod_lt _ h.pos) e).symm
theorem least_div : ∀ (k n : Nat), 2 ≤ n → n ≤ k → ∃ r, Pr r ∧ r ∣ n
  | 0, n, h2, hk => by omega
  | k + 1, n, h2, hk => by
    by_cases hp : Pr n
    · exact ⟨n, hp, Nat.dvd_refl _⟩
    · have : ∃ d, d ∣ n ∧ d ≠ 1 ∧ d ≠ n := by
        apply Classical.byContradiction
        intro hc
        refine hp ⟨h2, fun d hd => ?_⟩
        apply Classical.byContradiction
        intro hd2
        exact hc ⟨d, hd, fun e => hd2 (.inl e), fun e => hd2 (.inr e)⟩
      obtain ⟨d, hd, h1, h3⟩ := this
      have hle := Nat.le_of_dvd (by omega) hd
      have h0 : d ≠ 0 := fun e => by subst e; have := Nat.eq_zero_of_zero_dvd hd; omega
      obtain ⟨r, hr, hrd⟩ := least_div k d (by omega) (by omega)
      exact ⟨r, hr, Nat.dvd_trans hrd hd⟩
theorem small_div {n : Nat} (h2 : 2 ≤ n) (hp : ¬ Pr n) : ∃ r, Pr r ∧ r ∣ n ∧ r * r ≤ n := by
  have : ∃ d, d ∣ n ∧ d ≠ 1 ∧ d ≠ n := by
    apply Classical.byContradiction
    intro hc
    refine hp ⟨h2, fun d hd => ?_⟩
    apply Classical.byContradiction
    intro hd2
    exact hc ⟨d, hd, fun e => hd2 (.inl e), fun e => hd2 (.inr e)⟩
  obtain ⟨d, ⟨e, rfl⟩, h1, h3⟩ := this
  have hd0 : d ≠ 0 := fun e' => by subst e'; omega
  have he0 : e ≠ 0 := fun e' => by subst e'; omega
  have he1 : e ≠ 1 := fun e' => by subst e'; omega
  rcases Nat.le_total d e with hde | hde
  · obtain ⟨r, hr, hrd⟩ := least_div d d (by omega) (Nat.le_refl _)
    have hle := Nat.le_of_dvd (by omega) hrd
    exact ⟨r, hr, Nat.dvd_trans hrd (Nat.dvd_mul_right ..), Nat.le_trans (Nat.mul_le_mul hle hle) (Nat.mul_le_mul_left d hde)⟩
  · obtain ⟨r, hr, hrd⟩ := least_div e e (by omega) (Nat.le_refl _)
    have hle := Nat.le_of_dvd (by omega) hrd
    exact ⟨r, hr, Nat.dvd_trans hrd (Nat.dvd_mul_left ..), Nat.le_trans (Nat.mul_le_mul hle hle) (Nat.mul_le_mul_right e hde)⟩
theorem pow_gcd {r a : Nat} (hr : 2 ≤ r) (m k : Nat) : a ^ m % r = 1 → a ^ k % r = 1 → a ^ Nat.gcd m k % r = 1 := by
  induction m, k using Nat.gcd.induction with
  | H0 n => intro _ h; rw [Nat.gcd_zero_left]; exact h
  | H1 m n hm ih =>
    intro h1 h2
    rw [Nat.gcd_rec]
    refine ih ?_ h1
    have e : a ^ n % r = a ^ (n % m) % r := by
      conv => lhs; rw [← Nat.div_add_mod n m, Nat.pow_add, Nat.pow_mul, Nat.mul_mod, Nat.pow_mod, h1, Nat.one_pow, Nat.mod_eq_of_lt (show 1 < r by omega), Nat.one_mul, Nat.mod_mod]
    rw [← e]
    exact h2
theorem pock_one {n q e a m : Nat} (hn2 : 2 ≤ n) (hq : Pr q) (he : n - 1 = q ^ (e + 1) * m) (h1 : a ^ (n - 1) % n = 1) (h2 : Nat.gcd (a ^ (q ^ e * m) % n + n - 1) n = 1)
    {r : Nat} (hr : Pr r) (hd : r ∣ n) : q ^ (e + 1) ∣ r - 1 := by
  have hr2 := hr.1
  have ha1 : a ^ (n - 1) % r = 1 := by
    have := congrArg (· % r) h1
    simp only [Nat.mod_mod_of_dvd _ hd] at this
    rw [this, Nat.mod_eq_of_lt (by omega)]
  have hna : ¬ r ∣ a := fun h => by
    have : r ∣ a ^ (n - 1) := Nat.dvd_trans h (by
      have := Nat.pow_dvd_pow a (show 1 ≤ n - 1 by omega)
      rwa [Nat.pow_one] at this)
    rw [Nat.mod_eq_zero_of_dvd this] at ha1
    omega
  have hg := pow_gcd hr2 _ _ ha1 (fermat hr hna)
  obtain ⟨h, hh⟩ := Nat.gcd_dvd_left (n - 1) (r - 1)
  by_cases hqh : q ∣ h
  · obtain ⟨k, rfl⟩ := hqh
    have hk : q ^ e * m = Nat.gcd (n - 1) (r - 1) * k := by
      have : q * (q ^ e * m) = q * (Nat.gcd (n - 1) (r - 1) * k) := by
        rw [← Nat.mul_assoc, ← Nat.pow_succ', ← he, Nat.mul_left_comm q, ← hh]
      exact Nat.eq_of_mul_eq_mul_left hq.pos this
    have hone : a ^ (q ^ e * m) % r = 1 := by
      rw [hk, Nat.pow_mul, Nat.pow_mod, hg, Nat.one_pow, Nat.mod_eq_of_lt (by omega)]
    have hmn : a ^ (q ^ e * m) % n % r = 1 := by rw [Nat.mod_mod_of_dvd _ hd, hone]
    have hdv : r ∣ a ^ (q ^ e * m) % n + n - 1 := by
      obtain ⟨c, rfl⟩ := hd
      have := Nat.div_add_mod (a ^ (q ^ e * m) % (r * c)) r
      refine ⟨a ^ (q ^ e * m) % (r * c) / r + c, ?_⟩
      rw [Nat.mul_add]
      omega
    have := Nat.dvd_gcd hdv hd
    rw [h2] at this
    have := Nat.le_of_dvd (by decide) this
    omega
  · have hc : Nat.Coprime (q ^ (e + 1)) h := Nat.Coprime.pow_left _ (hq.cop hqh)
    have hdg : q ^ (e + 1) ∣ Nat.gcd (n - 1) (r - 1) * h := by rw [← hh, he]; exact Nat.dvd_mul_right ..
    exact Nat.dvd_trans (hc.dvd_of_dvd_mul_right hdg) (Nat.gcd_dvd_right ..)
theorem pock {n F : Nat} (h2 : 2 ≤ n) (hF : n < F * F) (h : ∀ r, Pr r → r ∣ n → F ∣ r - 1) : Pr n := by
  apply Classical.byContradiction
  intro hp
  obtain ⟨r, hr, hd, hle⟩ := small_div h2 hp
  have h1 := hr.1
  have := Nat.le_of_dvd (by omega) (h r hr hd)
  have : F * F ≤ r * r := Nat.mul_le_mul (by omega) (by omega)
  omega
def forceN {α : Type} (n : Nat) (f : Nat → α) : α := match n with
  | 0 => f 0
  | k + 1 => f (k + 1)
theorem forceN_eq {α : Type} (n : Nat) (f : Nat → α) : forceN n f = f n := by cases n <;> rfl
def pw (n : Nat) : Nat → Nat → Nat → Nat → Nat
  | 0, o, _, _ => o
  | f + 1, o, x, k => forceN k fun k => cond (Nat.beq k 0) o (forceN (x * x % n) fun y => forceN (cond (Nat.beq (k % 2) 1) (o * x % n) o) fun o => pw n f o y (k / 2))
theorem pw_eq {p : Nat} : ∀ (n o x k : Nat), k < 2 ^ n → o < p → pw p n o x k = o * x ^ k % p
  | 0, o, x, k, hk, ho => by
    have : k = 0 := by omega
    subst this
    show o = _
    rw [Nat.pow_zero, Nat.mul_one, Nat.mod_eq_of_lt ho]
  | n + 1, o, x, k, hk, ho => by
    unfold pw
    simp only [forceN_eq]
    rw [Nat.pow_succ] at hk
    cases h0 : Nat.beq k 0
    · simp only [cond_false]
      have hsq : (x * x % p) ^ (k / 2) % p = x ^ (2 * (k / 2)) % p := by
        rw [← Nat.pow_mod, Nat.pow_mul, Nat.pow_two]
      cases h1 : Nat.beq (k % 2) 1
      · have h1' : ¬ k % 2 = 1 := fun e => by rw [e] at h1; cases h1
        simp only [cond_false]
        rw [pw_eq n _ _ _ (by omega) ho, Nat.mul_mod, hsq, ← Nat.mul_mod, show 2 * (k / 2) = k by omega]
      · have h1 := Nat.eq_of_beq_eq_true h1
        simp only [cond_true]
        rw [pw_eq n _ _ _ (by omega) (Nat.mod_lt _ (by omega)), Nat.mul_mod, hsq, Nat.mod_mod, ← Nat.mul_mod, Nat.mul_assoc, ← Nat.pow_succ', show (2 * (k / 2)).succ = k by omega]
    · have h0 := Nat.eq_of_beq_eq_true h0
      subst h0
      simp only [cond_true]
      rw [Nat.pow_zero, Nat.mul_one, Nat.mod_eq_of_lt ho]
def pwm (n a k : Nat) : Nat := pw n 256 1 (a % n) k
theorem pwm_eq {n : Nat} (hn : 2 ≤ n) {a k : Nat} (hk : Nat.blt k (2 ^ 256) = true) : pwm n a k = a ^ k % n := by
  have hk' : k < 2 ^ 256 := Nat.le_of_ble_eq_true hk
  unfold pwm
  rw [pw_eq 256 1 _ _ hk' (by omega), Nat.one_mul, ← Nat.pow_mod]
def pockB (n q e a m : Nat) : Bool := Nat.beq (n - 1) (q ^ (e + 1) * m) && (Nat.blt n (2 ^ 256) && (Nat.beq (pwm n a (n - 1)) 1 && Nat.beq (Nat.gcd (pwm n a (q ^ e * m) + n - 1) n) 1))
theorem pockB_of {n q e a m : Nat} (h2 : 2 ≤ n) (hq : Pr q) (h : pockB n q e a m = true) {r : Nat} (hr : Pr r) (hd : r ∣ n) : q ^ (e + 1) ∣ r - 1 := by
  simp only [pockB, Bool.and_eq_true] at h
  obtain ⟨h1, h3, h4, h5⟩ := h
  have h1 := Nat.eq_of_beq_eq_true h1
  have h3 : n < 2 ^ 256 := Nat.le_of_ble_eq_true h3
  have hm : q ^ e * m ≤ n - 1 := by
    rw [h1, Nat.pow_succ, Nat.mul_right_comm]
    exact Nat.le_mul_of_pos_right _ hq.pos
  rw [pwm_eq h2 (Nat.ble_eq_true_of_le (show n - 1 + 1 ≤ 2 ^ 256 by omega))] at h4
  rw [pwm_eq h2 (Nat.ble_eq_true_of_le (show q ^ e * m + 1 ≤ 2 ^ 256 by omega))] at h5
  exact pock_one h2 hq h1 (Nat.eq_of_beq_eq_true h4) (Nat.eq_of_beq_eq_true h5) hr hd
def triB (n : Nat) : Nat → Nat → Bool
  | 0, _ => false
  | f + 1, d => forceN d fun d => cond (Nat.blt n (d * d)) true (cond (Nat.beq (n % d) 0) false (triB n f (d + 1)))
theorem triB_of {n : Nat} : ∀ (f d : Nat), triB n f d = true → 0 < d → (∀ x, 1 < x → x < d → ¬ x ∣ n) → ∀ x, 1 < x → x * x ≤ n → ¬ x ∣ n
  | 0, d, h, _, _ => by cases h
  | f + 1, d, h, hd0, hb => by
    unfold triB at h
    rw [forceN_eq] at h
    cases h1 : Nat.blt n (d * d)
    · rw [h1] at h
      cases h2 : Nat.beq (n % d) 0
      · rw [h2] at h
        refine triB_of f (d + 1) h (by omega) fun x hx hxd hdv => ?_
        by_cases hxd2 : x = d
        · subst hxd2
          rw [Nat.mod_eq_zero_of_dvd hdv] at h2
          cases h2
        · exact hb x hx (by omega) hdv
      · rw [h2] at h; cases h
    · have h1 : n < d * d := Nat.le_of_ble_eq_true h1
      intro x hx hxx
      refine hb x hx ?_
      apply Classical.byContradiction
      intro hc
      have := Nat.mul_le_mul (show d ≤ x by omega) (show d ≤ x by omega)
      omega
theorem tri_pr {n : Nat} (f : Nat) (h2 : 2 ≤ n) (h : triB n f 2 = true) : Pr n := by
  apply Classical.byContradiction
  intro hp
  obtain ⟨r, hr, hd, hle⟩ := small_div h2 hp
  have := hr.1
  exact triB_of f 2 h (by decide) (fun x a b => by omega) r (by omega) hle hd
end Go.Proofs.Ytkedomfjjahjnaa

set_option maxRecDepth 100000
namespace Go.Proofs.Ytkedomfjjahjnaa
theorem pr_16513537 : Pr 16513537 := tri_pr 4065 (by decide) (by decide +kernel)
theorem pr_16521217 : Pr 16521217 := tri_pr 4066 (by decide) (by decide +kernel)
theorem pr_772231 : Pr 772231 := tri_pr 880 (by decide) (by decide +kernel)
theorem pr_413527 : Pr 413527 := tri_pr 645 (by decide) (by decide +kernel)
theorem pr_325086459374267 : Pr 325086459374267 := pock (F := 319338368737) (by decide) (by decide +kernel) fun r hr hd => by
  have h0 : 772231 ∣ r - 1 := pockB_of (n := 325086459374267) (q := 772231) (e := 0) (a := 2) (m := 420970486) (by decide) pr_772231 (by decide +kernel) hr hd
  have h1 : 413527 ∣ r - 1 := pockB_of (n := 325086459374267) (q := 413527) (e := 0) (a := 2) (m := 786131158) (by decide) pr_413527 (by decide +kernel) hr hd
  have k1 : 319338368737 ∣ r - 1 := Nat.Coprime.mul_dvd_of_dvd_of_dvd (m := 772231) (n := 413527) (show Nat.gcd 772231 413527 = 1 by decide +kernel) h0 h1
  exact k1
theorem pr_6942563 : Pr 6942563 := tri_pr 2636 (by decide) (by decide +kernel)
theorem pr_41655379 : Pr 41655379 := pock (F := 6942563) (by decide) (by decide +kernel) fun r hr hd => by
  have h0 : 6942563 ∣ r - 1 := pockB_of (n := 41655379) (q := 6942563) (e := 0) (a := 2) (m := 6) (by decide) pr_6942563 (by decide +kernel) hr hd
  exact h0
theorem pr_22160661629 : Pr 22160661629 := pock (F := 41655379) (by decide) (by decide +kernel) fun r hr hd => by
  have h0 : 41655379 ∣ r - 1 := pockB_of (n := 22160661629) (q := 41655379) (e := 0) (a := 2) (m := 532) (by decide) pr_41655379 (by decide +kernel) hr hd
  exact h0
theorem pr_8999194758858563409123804352480028797519453 : Pr 8999194758858563409123804352480028797519453 := pock (F := 7204131026362786056900943) (by decide) (by decide +kernel) fun r hr hd => by
  have h0 : 325086459374267 ∣ r - 1 := pockB_of (n := 8999194758858563409123804352480028797519453) (q := 325086459374267) (e := 0) (a := 2) (m := 27682465692912573825889481556) (by decide) pr_325086459374267 (by decide +kernel) hr hd
  have h1 : 22160661629 ∣ r - 1 := pockB_of (n := 8999194758858563409123804352480028797519453) (q := 22160661629) (e := 0) (a := 2) (m := 406088721966766121824069856270988) (by decide) pr_22160661629 (by decide +kernel) hr hd
  have k1 : 7204131026362786056900943 ∣ r - 1 := Nat.Coprime.mul_dvd_of_dvd_of_dvd (m := 325086459374267) (n := 22160661629) (show Nat.gcd 325086459374267 22160661629 = 1 by decide +kernel) h0 h1
  exact k1
theorem pr_28948022309329048855892746252171976963363056481941560715954676764349967630337 : Pr 28948022309329048855892746252171976963363056481941560715954676764349967630337 := pock (F := 8999194758858563409123804352480028797519453) (by decide) (by decide +kernel) fun r hr hd => by
  have h0 : 8999194758858563409123804352480028797519453 ∣ r - 1 := pockB_of (n := 28948022309329048855892746252171976963363056481941560715954676764349967630337) (q := 8999194758858563409123804352480028797519453) (e := 0) (a := 2) (m := 3216734728497058061019394250637312) (by decide) pr_8999194758858563409123804352480028797519453 (by decide +kernel) hr hd
  exact h0
theorem pr_31649 : Pr 31649 := tri_pr 179 (by decide) (by decide +kernel)
theorem pr_12149 : Pr 12149 := tri_pr 112 (by decide) (by decide +kernel)
theorem pr_5239247429827 : Pr 5239247429827 := pock (F := 384503701) (by decide) (by decide +kernel) fun r hr hd => by
  have h0 : 31649 ∣ r - 1 := pockB_of (n := 5239247429827) (q := 31649) (e := 0) (a := 2) (m := 165542274) (by decide) pr_31649 (by decide +kernel) hr hd
  have h1 : 12149 ∣ r - 1 := pockB_of (n := 5239247429827) (q := 12149) (e := 0) (a := 2) (m := 431249274) (by decide) pr_12149 (by decide +kernel) hr hd
  have k1 : 384503701 ∣ r - 1 := Nat.Coprime.mul_dvd_of_dvd_of_dvd (m := 31649) (n := 12149) (show Nat.gcd 31649 12149 = 1 by decide +kernel) h0 h1
  exact k1
theorem pr_5701177 : Pr 5701177 := tri_pr 2389 (by decide) (by decide +kernel)
theorem pr_399082391 : Pr 399082391 := pock (F := 5701177) (by decide) (by decide +kernel) fun r hr hd => by
  have h0 : 5701177 ∣ r - 1 := pockB_of (n := 399082391) (q := 5701177) (e := 0) (a := 2) (m := 70) (by decide) pr_5701177 (by decide +kernel) hr hd
  exact h0
theorem pr_10427374428728808478656897599072717 : Pr 10427374428728808478656897599072717 := pock (F := 2090891391335963876357) (by decide) (by decide +kernel) fun r hr hd => by
  have h0 : 5239247429827 ∣ r - 1 := pockB_of (n := 10427374428728808478656897599072717) (q := 5239247429827) (e := 0) (a := 2) (m := 1990242791238649418308) (by decide) pr_5239247429827 (by decide +kernel) hr hd
  have h1 : 399082391 ∣ r - 1 := pockB_of (n := 10427374428728808478656897599072717) (q := 399082391) (e := 0) (a := 2) (m := 26128375152309860944621076) (by decide) pr_399082391 (by decide +kernel) hr hd
  have k1 : 2090891391335963876357 ∣ r - 1 := Nat.Coprime.mul_dvd_of_dvd_of_dvd (m := 5239247429827) (n := 399082391) (show Nat.gcd 5239247429827 399082391 = 1 by decide +kernel) h0 h1
  exact k1
theorem pr_2 : Pr 2 := tri_pr 3 (by decide) (by decide +kernel)
theorem pr_28948022309329048855892746252171976963363056481941647379679742748393362948097 : Pr 28948022309329048855892746252171976963363056481941647379679742748393362948097 := pock (F := 44785232154536915268878889192838239440863232) (by decide) (by decide +kernel) fun r hr hd => by
  have h0 : 10427374428728808478656897599072717 ∣ r - 1 := pockB_of (n := 28948022309329048855892746252171976963363056481941647379679742748393362948097) (q := 10427374428728808478656897599072717) (e := 0) (a := 2) (m := 2776156405161148062854777934377771323097088) (by decide) pr_10427374428728808478656897599072717 (by decide +kernel) hr hd
  have h1 : 4294967296 ∣ r - 1 := pockB_of (n := 28948022309329048855892746252171976963363056481941647379679742748393362948097) (q := 2) (e := 31) (a := 5) (m := 6739986666787659948666753771754907668419893943225417141728043264801) (by decide) pr_2 (by decide +kernel) hr hd
  have k1 : 44785232154536915268878889192838239440863232 ∣ r - 1 := Nat.Coprime.mul_dvd_of_dvd_of_dvd (m := 10427374428728808478656897599072717) (n := 4294967296) (show Nat.gcd 10427374428728808478656897599072717 4294967296 = 1 by decide +kernel) h0 h1
  exact k1
end Go.Proofs.Ytkedomfjjahjnaa

namespace Go.Proofs.Ytkedomfjjahjnaa
set_option maxRecDepth 100000
theorem dz (p : Int) : p ∣ 0 := Int.dvd_zero p
theorem dc {p a b : Int} (c : Int) (h : p ∣ a) (k : p ∣ b) : p ∣ c * a + b := Int.dvd_add (Int.dvd_trans h (Int.dvd_mul_left ..)) k
theorem dk {p a K : Int} (h : p ∣ a) (e : K = a) : p ∣ K := e ▸ h
theorem thd_on {p y3 x3 b y1 y2 x1 x2 l : Int} (h0 : p ∣ y3-(l*(x1-x3)-y1)) (h1 : p ∣ x3-(l*l-x1-x2)) (h2 : p ∣ l*(x1-x2)-(y1-y2)) (h3 : p ∣ l*(y1+y2)-(x1*x1+x1*x2+x2*x2)) (h4 : p ∣ y1*y1-x1*x1*x1-b) : p ∣ (y3*y3-x3*x3*x3-b) :=
  dk (dc (y3 - x3*l + x1*l - y1) h0 (dc (-x3*x3 + x3*x1 + x3*x2 - x1*l*l + x2*l*l - x1*x1 - 2*x1*x2 - x2*x2 + 2*y1*l) h1 (dc (-l*l*l + 2*x1*l + x2*l) h2 (dc (l*l - 2*x1 - x2) h3 (dc (1) h4 (dz p)))))) (by clear h0 h1 h2 h3 h4; grind)
theorem thd_sym {p y3 x3 y1 y2 x1 x2 l : Int} (h0 : p ∣ y3-(l*(x1-x3)-y1)) (h1 : p ∣ l*(x1-x2)-(y1-y2)) : p ∣ (y3-(l*(x2-x3)-y2)) :=
  dk (dc (1) h0 (dc (1) h1 (dz p))) (by clear h0 h1; grind)
theorem back_b {p y3 x3 y1 y2 x1 x2 l : Int} (h0 : p ∣ y3-(l*(x1-x3)-y1)) (h1 : p ∣ x3-(l*l-x1-x2)) (h2 : p ∣ l*(x1-x2)-(y1-y2)) (h3 : p ∣ l*(y1+y2)-(x1*x1+x1*x2+x2*x2)) : p ∣ ((-l)*((-y1)+y3)-(x1*x1+x1*x3+x3*x3)) :=
  dk (dc (-l) h0 (dc (-x3 + x2) h1 (dc (-l) h2 (dc (1) h3 (dz p))))) (by clear h0 h1 h2 h3; grind)
theorem chord_b {p b y1 y2 x1 x2 l : Int} (h0 : p ∣ y1*y1-x1*x1*x1-b) (h1 : p ∣ y2*y2-x2*x2*x2-b) (h2 : p ∣ l*(x1-x2)-(y1-y2)) : p ∣ (x1-x2) * (l*(y1+y2)-(x1*x1+x1*x2+x2*x2)) :=
  dk (dc (1) h0 (dc (-1) h1 (dc (y1 + y2) h2 (dz p)))) (by clear h0 h1 h2; grind)
theorem ass_gx {p x7 x5 yt xt ys xs y1 y3 L M l m x1 x3 y2 x2 : Int} (h0 : p ∣ l*(x1-x2)-(y1-y2)) (h1 : p ∣ m*(x2-x3)-(y2-y3)) (h2 : p ∣ xs-(l*l-x1-x2)) (h3 : p ∣ ys-(l*(x1-xs)-y1)) (h4 : p ∣ xt-(m*m-x2-x3)) (h5 : p ∣ yt-(m*(x2-xt)-y2)) (h6 : p ∣ x5-(L*L-xs-x3)) (h7 : p ∣ x7-(M*M-x1-xt)) (h8 : p ∣ l*(y1+y2)-(x1*x1+x1*x2+x2*x2)) (h9 : p ∣ m*(y2+y3)-(x2*x2+x2*x3+x3*x3)) (h10 : p ∣ L*(xs-x3)-(ys-y3)) (h11 : p ∣ M*(x1-xt)-(y1-yt)) : p ∣ ((xs-x3)*(x1-xt)) * (x5-x7) :=
  dk (dc (-L*l*l - l*l*l - L*l*m - M*l*m - l*l*m - L*m*m + L*x1 - M*x1 + 2*l*x1 + 2*m*x1 + L*x3 - M*x3 + L*x2 - M*x2 + l*x2 + m*x2) h0 (dc (-L*l*m - M*l*m - l*l*m - M*m*m - l*m*m - m*m*m - L*x1 + m*x1 - L*x3 + l*x3 + 2*m*x3 - L*x2 + 2*l*x2 + 3*m*x2 - 2*y2) h1 (dc (x7*xt - x7*x1 - x5*xt + x5*x1 + L*L*m*m - L*L*x1 - L*l*x1 - l*l*x1 - L*m*x1 - l*m*x1 - m*m*x1 - L*L*x3 - m*m*x3 - L*L*x2 + L*l*x2 + l*l*x2 + L*m*x2 + l*m*x2 - m*m*x2 + x1*x1 + 2*x1*x3 + x3*x3 - 2*L*y2 - 2*l*y2 + 2*x1*x2 + 2*x3*x2 + x2*x2) h2 (dc (-L*m*m + l*m*m + L*x1 + m*x1 + L*x3 - l*x3 + L*x2 - 2*l*x2 - m*x2 + 2*y2) h3 (dc (x7*l*l - x7*x1 - x7*x3 - x7*x2 - x5*l*l + x5*x1 + x5*x3 + x5*x2 - M*M*l*l + M*M*x1 + l*l*x1 + M*M*x3 + M*l*x3 + l*l*x3 + M*m*x3 + l*m*x3 + m*m*x3 + M*M*x2 - M*l*x2 + l*l*x2 - M*m*x2 - l*m*x2 - m*m*x2 - x1*x1 - 2*x1*x3 - x3*x3 + 2*M*y2 + 2*m*y2 - 2*x1*x2 - 2*x3*x2 - x2*x2) h4 (dc (M*l*l - l*l*m - M*x1 + m*x1 - M*x3 - l*x3 - M*x2 + l*x2 + 2*m*x2 - 2*y2) h5 (dc (-l*l*m*m + l*l*x1 + m*m*x1 + l*l*x3 + m*m*x3 + l*l*x2 + m*m*x2 - x1*x1 - 2*x1*x3 - x3*x3 - 2*x1*x2 - 2*x3*x2 - x2*x2) h6 (dc (l*l*m*m - l*l*x1 - m*m*x1 - l*l*x3 - m*m*x3 - l*l*x2 - m*m*x2 + x1*x1 + 2*x1*x3 + x3*x3 + 2*x1*x2 + 2*x3*x2 + x2*x2) h7 (dc (-L*l - M*l - l*l - L*m - M*m - m*m + 2*x1 + 2*x3 + 2*x2) h8 (dc (L*l + M*l + l*l + L*m + M*m + m*m - 2*x1 - 2*x3 - 2*x2) h9 (dc (-L*m*m + l*m*m + L*x1 + m*x1 + L*x3 - l*x3 + L*x2 - 2*l*x2 - m*x2 + 2*y2) h10 (dc (-M*l*l + l*l*m + M*x1 - m*x1 + M*x3 + l*x3 + M*x2 - l*x2 - 2*m*x2 + 2*y2) h11 (dz p))))))))))))) (by clear h0 h1 h2 h3 h4 h5 h6 h7 h8 h9 h10 h11; grind)
theorem ass_gy {p y7 x7 y5 x5 yt xt ys xs y1 y3 L M l m x1 x3 y2 x2 : Int} (h0 : p ∣ l*(x1-x2)-(y1-y2)) (h1 : p ∣ m*(x2-x3)-(y2-y3)) (h2 : p ∣ xs-(l*l-x1-x2)) (h3 : p ∣ ys-(l*(x1-xs)-y1)) (h4 : p ∣ xt-(m*m-x2-x3)) (h5 : p ∣ yt-(m*(x2-xt)-y2)) (h6 : p ∣ x5-(L*L-xs-x3)) (h7 : p ∣ y5-(L*(xs-x5)-ys)) (h8 : p ∣ x7-(M*M-x1-xt)) (h9 : p ∣ y7-(M*(x1-x7)-y1)) (h10 : p ∣ l*(y1+y2)-(x1*x1+x1*x2+x2*x2)) (h11 : p ∣ m*(y2+y3)-(x2*x2+x2*x3+x3*x3)) (h12 : p ∣ L*(xs-x3)-(ys-y3)) (h13 : p ∣ M*(x1-xt)-(y1-yt)) (h14 : p ∣ x5-x7) : p ∣ ((xs-x3)*(x1-xt)) * (y5-y7) :=
  dk (dc (-L*L*L*l + L*M*M*l - 2*L*L*l*l - L*M*l*l + M*M*l*l - M*l*l*l + l*l*l*l - L*L*l*m - L*M*l*m + M*M*l*m - 2*L*l*l*m - M*l*l*m - l*l*l*m + L*L*m*m - 3*L*l*m*m + M*l*m*m - 3*l*l*m*m - M*l*x1 - 2*l*l*x1 + L*m*x1 + l*m*x1 + 2*m*m*x1 - L*L*x3 + M*M*x3 + 2*L*l*x3 - 3*M*l*x3 + 3*l*l*x3 - L*m*x3 - 2*M*m*x3 + l*m*x3 - m*m*x3 - 2*L*L*x2 + 2*M*M*x2 + L*l*x2 - 2*M*l*x2 + 2*l*l*x2 - M*m*x2 - 2*l*m*x2 - 4*m*m*x2 + 2*x1*x1 + 2*x3*x3 + 6*m*y2 - x1*x2 + 5*x3*x2 + x2*x2) h0 (dc (L*L*l*m - L*M*l*m - M*M*l*m - M*l*l*m - l*l*l*m - L*M*m*m - M*M*m*m - L*l*m*m - 2*M*l*m*m - 2*l*l*m*m - L*m*m*m - l*m*m*m + m*m*m*m + M*M*x1 - 2*L*l*x1 - M*l*x1 - 2*L*m*x1 - 2*M*m*x1 + 3*l*m*x1 + L*L*x3 - L*l*x3 - l*l*x3 - L*m*x3 - M*m*x3 + 2*L*L*x2 - M*M*x2 + M*l*x2 - 2*l*l*x2 + 3*x1*x3 - 2*L*y2 - 2*M*y2 + 2*m*y2 + 6*x1*x2 + 3*x2*x2) h1 (dc (y7*xt - y7*x1 - y5*xt + y5*x1 - L*L*L*m*m + L*M*M*x1 - 2*L*L*l*x1 - L*M*l*x1 + M*M*l*x1 - M*l*l*x1 + l*l*l*x1 - L*L*m*x1 - L*M*m*x1 - 2*L*l*m*x1 - M*l*m*x1 - l*l*m*x1 - 2*L*m*m*x1 - 3*l*m*m*x1 + L*L*L*x3 + 2*L*m*m*x3 + l*m*m*x3 + 2*L*L*L*x2 - L*M*M*x2 + 2*L*L*l*x2 + L*M*l*x2 - M*M*l*x2 + M*l*l*x2 - l*l*l*x2 + L*L*m*x2 + L*M*m*x2 + 2*L*l*m*x2 + M*l*m*x2 + l*l*m*x2 + 3*L*m*m*x2 + 2*l*m*m*x2 - 2*L*x1*x1 - l*x1*x1 + 3*l*x1*x3 + m*x1*x3 - 2*L*x3*x3 - l*x3*x3 - 2*L*L*y2 - 2*L*M*y2 - 2*M*l*y2 + 2*l*l*y2 - 4*L*m*y2 + L*x1*x2 + 2*l*x1*x2 - m*x1*x2 - 5*L*x3*x2 - 4*l*x3*x2 - m*x3*x2 - L*x2*x2 - 5*l*x2*x2 - 5*m*x2*x2 + 2*x1*y2 + 4*x3*y2 + 6*y2*x2) h2 (dc (L*L*m*m - L*l*m*m - M*M*x1 + 2*L*l*x1 + M*l*x1 - l*l*x1 + L*m*x1 + M*m*x1 + l*m*x1 + 3*m*m*x1 - L*L*x3 + L*l*x3 - m*m*x3 - 2*L*L*x2 + M*M*x2 - M*l*x2 + l*l*x2 - L*m*x2 - M*m*x2 - l*m*x2 - 2*m*m*x2 + x1*x1 - x1*x3 + x3*x3 + 2*L*y2 + 2*M*y2 + 4*m*y2 - 4*x1*x2 + 2*x3*x2 - 2*x2*x2) h3 (dc (y7*l*l - y7*x1 - y7*x3 - y7*x2 - y5*l*l + y5*x1 + y5*x3 + y5*x2 + M*M*M*l*l - M*M*M*x1 - M*l*l*x1 - M*M*M*x3 + L*M*l*x3 + M*M*l*x3 + M*l*l*x3 + L*M*m*x3 + M*M*m*x3 + L*l*m*x3 + 2*M*l*m*x3 + 2*l*l*m*x3 + L*m*m*x3 + l*m*m*x3 - m*m*m*x3 - M*M*M*x2 - L*M*l*x2 - M*M*l*x2 - 3*M*l*l*x2 - L*M*m*x2 - M*M*m*x2 - L*l*m*x2 - 2*M*l*m*x2 - 2*l*l*m*x2 - L*m*m*x2 - l*m*m*x2 + m*m*m*x2 + M*x1*x1 - L*x1*x3 + 3*M*x1*x3 - 2*l*x1*x3 + M*x3*x3 + 2*L*M*y2 + 2*M*M*y2 - 2*L*l*y2 + 6*M*l*y2 - 2*l*l*y2 + 2*L*m*y2 + 2*l*m*y2 - 2*m*m*y2 + L*x1*x2 + M*x1*x2 + 2*l*x1*x2 + L*x3*x2 + M*x3*x2 + 2*l*x3*x2 + 2*L*x2*x2 - M*x2*x2 + 7*l*x2*x2 + 3*m*x2*x2 - 2*x1*y2 - 4*x3*y2 - 6*y2*x2) h4 (dc (-M*M*l*l + M*l*l*m + M*M*x1 - M*m*x1 + M*M*x3 - L*l*x3 - M*l*x3 - 2*l*l*x3 - L*m*x3 - 2*M*m*x3 - l*m*x3 + m*m*x3 + M*M*x2 + L*l*x2 + M*l*x2 + 2*l*l*x2 + L*m*x2 + l*m*x2 - m*m*x2 - x1*x3 - 2*L*y2 - 2*M*y2 - 6*l*y2 + 2*m*y2 + x1*x2 + x3*x2 + 2*x2*x2) h5 (dc (L*l*l*m*m - L*l*l*x1 - L*m*m*x1 - L*l*l*x3 - L*m*m*x3 - L*l*l*x2 - L*m*m*x2 + L*x1*x1 + L*x1*x3 - 2*l*x1*x3 - m*x1*x3 + L*x3*x3 - 2*L*l*y2 - 2*l*l*y2 - 4*l*m*y2 + 3*L*x1*x2 + 2*l*x1*x2 + m*x1*x2 + 3*L*x3*x2 + 2*l*x3*x2 + m*x3*x2 + 3*L*x2*x2 + 7*l*x2*x2 + 5*m*x2*x2 - 2*x1*y2 - 4*x3*y2 - 6*y2*x2) h6 (dc (-l*l*m*m + l*l*x1 + m*m*x1 + l*l*x3 + m*m*x3 + l*l*x2 + m*m*x2 - x1*x1 - 2*x1*x3 - x3*x3 - 2*x1*x2 - 2*x3*x2 - x2*x2) h7 (dc (-M*l*l*m*m + M*l*l*x1 + M*m*m*x1 + M*l*l*x3 + M*m*m*x3 + M*l*l*x2 + M*m*m*x2 - M*x1*x1 + L*x1*x3 - 2*M*x1*x3 + 2*l*x1*x3 + m*x1*x3 - M*x3*x3 + 2*L*l*y2 + 2*l*l*y2 + 4*l*m*y2 - L*x1*x2 - 2*M*x1*x2 - 2*l*x1*x2 - m*x1*x2 - L*x3*x2 - 2*M*x3*x2 - 2*l*x3*x2 - m*x3*x2 - 2*L*x2*x2 - M*x2*x2 - 7*l*x2*x2 - 5*m*x2*x2 + 2*x1*y2 + 4*x3*y2 + 6*y2*x2) h8 (dc (l*l*m*m - l*l*x1 - m*m*x1 - l*l*x3 - m*m*x3 - l*l*x2 - m*m*x2 + x1*x1 + 2*x1*x3 + x3*x3 + 2*x1*x2 + 2*x3*x2 + x2*x2) h9 (dc (-L*L*L + L*M*M - 2*L*L*l - L*M*l + 2*M*M*l - M*l*l + l*l*l - L*L*m - L*M*m + M*M*m - 2*L*l*m - 2*M*l*m - l*l*m - 2*L*m*m + M*m*m - 4*l*m*m - 2*L*x1 - 2*M*x1 + 2*L*x3 - 2*M*x3 + 6*l*x3 + 2*m*x3 - 2*M*x2 - 2*m*x2 + 6*y2) h10 (dc (-L*L*l + L*M*l + M*M*l + M*l*l + l*l*l - L*L*m + L*M*m + M*M*m + 2*L*l*m + 2*M*l*m + 3*l*l*m + L*m*m + l*m*m - m*m*m + L*x1 + M*x1 - 4*l*x1 - 4*m*x1 + L*x3 + M*x3 + L*x2 + M*x2 + l*x2 + m*x2 - 6*y2) h11 (dc (L*L*m*m - L*l*m*m - l*l*m*m - M*M*x1 + 2*L*l*x1 + M*l*x1 + L*m*x1 + M*m*x1 + l*m*x1 + 4*m*m*x1 - L*L*x3 + L*l*x3 + l*l*x3 - 2*L*L*x2 + M*M*x2 - M*l*x2 + 2*l*l*x2 - L*m*x2 - M*m*x2 - l*m*x2 - m*m*x2 - 3*x1*x3 + 2*L*y2 + 2*M*y2 + 4*m*y2 - 6*x1*x2 - 3*x2*x2) h12 (dc (M*M*l*l - M*l*l*m - M*M*x1 + M*m*x1 - M*M*x3 + L*l*x3 + M*l*x3 + 2*l*l*x3 + L*m*x3 + 2*M*m*x3 + l*m*x3 - m*m*x3 - M*M*x2 - L*l*x2 - M*l*x2 - 2*l*l*x2 - L*m*x2 - l*m*x2 + m*m*x2 + x1*x3 + 2*L*y2 + 2*M*y2 + 6*l*y2 - 2*m*y2 - x1*x2 - x3*x2 - 2*x2*x2) h13 (dc (L*x1*x3 + 2*l*x1*x3 + m*x1*x3 + 2*L*l*y2 + 2*l*l*y2 + 4*l*m*y2 - L*x1*x2 - 2*l*x1*x2 - m*x1*x2 - L*x3*x2 - 2*l*x3*x2 - m*x3*x2 - 2*L*x2*x2 - 7*l*x2*x2 - 5*m*x2*x2 + 2*x1*y2 + 4*x3*y2 + 6*y2*x2) h14 (dz p)))))))))))))))) (by clear h0 h1 h2 h3 h4 h5 h6 h7 h8 h9 h10 h11 h12 h13 h14; grind)
theorem ass_1x {p x7 x5 yt xt ys xs y1 y3 L M l m x1 x3 y2 x2 : Int} (h0 : p ∣ l*(x1-x2)-(y1-y2)) (h1 : p ∣ m*(x2-x3)-(y2-y3)) (h2 : p ∣ xs-(l*l-x1-x2)) (h3 : p ∣ ys-(l*(x1-xs)-y1)) (h4 : p ∣ xt-(m*m-x2-x3)) (h5 : p ∣ yt-(m*(x2-xt)-y2)) (h6 : p ∣ x5-(L*L-xs-x3)) (h7 : p ∣ x7-(M*M-x1-xt)) (h8 : p ∣ l*(y1+y2)-(x1*x1+x1*x2+x2*x2)) (h9 : p ∣ m*(y2+y3)-(x2*x2+x2*x3+x3*x3)) (h10 : p ∣ L*(xs-x3)-(ys-y3)) (h11 : p ∣ L*(ys+y3)-(xs*xs+xs*x3+x3*x3)) (h12 : p ∣ M*(x1-xt)-(y1-yt)) (h13 : p ∣ xs-x3) : p ∣ 4 * (y2*y3) * (x5-x7) :=
  dk (dc (L*M*l*x3 + M*M*l*x3 - 2*L*l*l*x3 - 2*M*l*l*x3 + 2*L*M*m*x3 - L*l*m*x3 - 2*M*l*m*x3 + 2*l*l*m*x3 - M*m*m*x3 + l*m*m*x3 + m*m*m*x3 - L*M*l*x2 - M*M*l*x2 + 2*L*l*l*x2 + 2*M*l*l*x2 - 2*L*M*m*x2 + L*l*m*x2 + 2*M*l*m*x2 - 2*l*l*m*x2 + M*m*m*x2 - l*m*m*x2 - m*m*m*x2 + L*x1*x3 + M*x1*x3 + 3*L*x3*x3 - 5*m*x3*x3 - 2*M*M*y2 + 2*L*l*y2 - 2*l*l*y2 + 2*L*m*y2 + 2*M*m*y2 - 2*l*m*y2 - 4*m*m*y2 - L*x1*x2 - M*x1*x2 - L*x3*x2 - M*x3*x2 + 4*m*x3*x2 - 2*L*x2*x2 - 2*M*x2*x2 + 4*m*x2*x2 + 4*x1*y2 - 4*x3*y2) h0 (dc (-4*x7*y2 + 4*x5*y2 + 2*L*M*l*x3 + M*l*l*x3 + L*M*m*x3 + M*M*m*x3 - M*l*m*x3 + l*l*m*x3 + L*m*m*x3 - M*m*m*x3 + l*m*m*x3 - 2*m*m*m*x3 - 2*L*M*l*x2 - M*l*l*x2 - L*M*m*x2 - M*M*m*x2 + M*l*m*x2 - l*l*m*x2 - L*m*m*x2 + M*m*m*x2 - l*m*m*x2 + 2*m*m*m*x2 - L*x1*x3 - M*x1*x3 - 2*L*x3*x3 + M*x3*x3 + 3*m*x3*x3 - 4*L*L*y2 + 2*M*M*y2 + 2*L*l*y2 + 2*l*l*y2 - 4*l*m*y2 - 2*m*m*y2 + L*x1*x2 + M*x1*x2 - L*x3*x2 - M*x3*x2 + 3*L*x2*x2 + 3*M*x2*x2 - 6*m*x2*x2 - 4*x1*y2 + 2*x3*y2 + 2*y2*x2) h1 (dc (-xs*M*l*x3 - xs*M*m*x3 - xs*l*m*x3 - xs*m*m*x3 + xs*M*l*x2 + xs*M*m*x2 + xs*l*m*x2 + xs*m*m*x2 + 2*xs*L*y2 - 2*xs*l*y2 + L*M*x1*x3 + M*M*x1*x3 - 2*L*l*x1*x3 - M*l*x1*x3 - L*m*x1*x3 - 2*M*m*x1*x3 + 3*l*m*x1*x3 + m*m*x1*x3 - L*M*x1*x2 - M*M*x1*x2 + 2*L*l*x1*x2 + M*l*x1*x2 + L*m*x1*x2 + 2*M*m*x1*x2 - 3*l*m*x1*x2 - m*m*x1*x2 - L*M*x3*x2 - M*M*x3*x2 + 2*L*l*x3*x2 + 2*M*l*x3*x2 + L*m*x3*x2 + 3*M*m*x3*x2 - 2*l*m*x3*x2 + L*M*x2*x2 + M*M*x2*x2 - 2*L*l*x2*x2 - 2*M*l*x2*x2 - L*m*x2*x2 - 3*M*m*x2*x2 + 2*l*m*x2*x2 - 4*m*x1*y2 - 4*L*x3*y2 - 4*M*x3*y2 + 4*m*x3*y2 + 2*L*y2*x2 + 4*M*y2*x2 + 2*l*y2*x2 - 4*y2*y2) h2 (dc (-M*l*l*x3 + 2*L*M*m*x3 - l*l*m*x3 - M*m*m*x3 + m*m*m*x3 + M*l*l*x2 - 2*L*M*m*x2 + l*l*m*x2 + M*m*m*x2 - m*m*m*x2 + L*x1*x3 + M*x1*x3 + 2*L*x3*x3 - M*x3*x3 - 3*m*x3*x3 - 2*M*M*y2 + 2*L*l*y2 - 2*l*l*y2 + 2*L*m*y2 + 2*M*m*y2 + 2*l*m*y2 - 4*m*m*y2 - L*x1*x2 - M*x1*x2 + L*x3*x2 + M*x3*x2 - 3*L*x2*x2 - 3*M*x2*x2 + 6*m*x2*x2 + 4*x1*y2 - 2*x3*y2 - 2*y2*x2) h3 (dc (-L*M*x3*x3 - M*M*x3*x3 - L*m*x3*x3 + M*m*x3*x3 + 2*m*m*x3*x3 + 2*L*M*x3*x2 + 2*M*M*x3*x2 + 2*L*m*x3*x2 - 2*M*m*x3*x2 - 4*m*m*x3*x2 - L*M*x2*x2 - M*M*x2*x2 - L*m*x2*x2 + M*m*x2*x2 + 2*m*m*x2*x2 + 2*M*x3*y2 + 6*m*x3*y2 - 2*M*y2*x2 - 6*m*y2*x2 + 4*y2*y2) h4 (dc (L*x3*x3 + M*x3*x3 - 2*m*x3*x3 - 2*L*x3*x2 - 2*M*x3*x2 + 4*m*x3*x2 + L*x2*x2 + M*x2*x2 - 2*m*x2*x2 - 2*x3*y2 + 2*y2*x2) h5 (dc (4*m*x3*y2 - 4*m*y2*x2 + 4*y2*y2) h6 (dc (-4*m*x3*y2 + 4*m*y2*x2 - 4*y2*y2) h7 (dc (L*M*x3 + M*M*x3 - 2*L*l*x3 - M*l*x3 - L*m*x3 - 2*M*m*x3 + 3*l*m*x3 + m*m*x3 - L*M*x2 - M*M*x2 + 2*L*l*x2 + M*l*x2 + L*m*x2 + 2*M*m*x2 - 3*l*m*x2 - m*m*x2 - 4*m*y2) h8 (dc (-L*M*x3 - M*M*x3 + 2*L*l*x3 + M*l*x3 + L*m*x3 + 2*M*m*x3 - l*m*x3 + m*m*x3 + L*M*x2 + M*M*x2 - 2*L*l*x2 - M*l*x2 - L*m*x2 - 2*M*m*x2 + l*m*x2 - m*m*x2 - 2*L*y2 - 2*M*y2 + 2*l*y2 + 6*m*y2) h9 (dc (-L*M*l*x3 - M*l*l*x3 + L*M*m*x3 - L*l*m*x3 - l*l*m*x3 - L*m*m*x3 - M*m*m*x3 + m*m*m*x3 + L*M*l*x2 + M*l*l*x2 - L*M*m*x2 + L*l*m*x2 + l*l*m*x2 + L*m*m*x2 + M*m*m*x2 - m*m*m*x2 + L*x1*x3 + M*x1*x3 + 2*L*x3*x3 - M*x3*x3 - 3*m*x3*x3 + 2*L*L*y2 - 2*M*M*y2 - 2*l*l*y2 + 2*L*m*y2 + 2*M*m*y2 + 2*l*m*y2 - 4*m*m*y2 - L*x1*x2 - M*x1*x2 + L*x3*x2 + M*x3*x2 - 3*L*x2*x2 - 3*M*x2*x2 + 6*m*x2*x2 + 4*x1*y2 - 2*x3*y2 - 2*y2*x2) h10 (dc (-M*l*x3 - M*m*x3 - l*m*x3 - m*m*x3 + M*l*x2 + M*m*x2 + l*m*x2 + m*m*x2 + 2*L*y2 - 2*l*y2) h11 (dc (-L*x3*x3 - M*x3*x3 + 2*m*x3*x3 + 2*L*x3*x2 + 2*M*x3*x2 - 4*m*x3*x2 - L*x2*x2 - M*x2*x2 + 2*m*x2*x2 + 2*x3*y2 - 2*y2*x2) h12 (dc (L*L*M*l*x3 + L*M*l*l*x3 - L*L*M*m*x3 + L*L*l*m*x3 - 2*L*M*l*m*x3 + L*l*l*m*x3 - M*l*l*m*x3 + L*L*m*m*x3 + L*M*m*m*x3 + M*l*m*m*x3 - l*l*m*m*x3 - L*m*m*m*x3 - l*m*m*m*x3 - L*L*M*l*x2 - L*M*l*l*x2 + L*L*M*m*x2 - L*L*l*m*x2 + 2*L*M*l*m*x2 - L*l*l*m*x2 + M*l*l*m*x2 - L*L*m*m*x2 - L*M*m*m*x2 - M*l*m*m*x2 + l*l*m*m*x2 + L*m*m*m*x2 + l*m*m*m*x2 - L*L*x1*x3 - 2*L*M*x1*x3 - M*M*x1*x3 + L*l*x1*x3 + M*l*x1*x3 + L*m*x1*x3 + 3*M*m*x1*x3 - 2*l*m*x1*x3 - 2*L*L*x3*x3 + L*M*x3*x3 - 2*L*l*x3*x3 + 3*L*m*x3*x3 - M*m*x3*x3 + 2*l*m*x3*x3 - m*m*x3*x3 - 2*L*L*L*y2 + 2*L*M*M*y2 + 2*M*M*l*y2 + 2*L*l*l*y2 - 2*L*L*m*y2 - 2*L*M*m*y2 - 4*L*l*m*y2 - 2*M*l*m*y2 - 2*l*l*m*y2 + 4*L*m*m*y2 + 4*l*m*m*y2 + L*L*x1*x2 + 2*L*M*x1*x2 + M*M*x1*x2 - L*l*x1*x2 - M*l*x1*x2 - L*m*x1*x2 - 3*M*m*x1*x2 + 2*l*m*x1*x2 - L*L*x3*x2 + M*M*x3*x2 - 3*L*l*x3*x2 - M*l*x3*x2 - L*m*x3*x2 - M*m*x3*x2 + 4*l*m*x3*x2 + 2*m*m*x3*x2 + 3*L*L*x2*x2 + 2*L*M*x2*x2 - M*M*x2*x2 + 5*L*l*x2*x2 + 4*M*l*x2*x2 - 5*L*m*x2*x2 + 2*M*m*x2*x2 - 9*l*m*x2*x2 - m*m*x2*x2 - 6*L*x1*y2 - 2*l*x1*y2 + 4*m*x1*y2 + 8*L*x3*y2 + 4*M*x3*y2 - 8*m*x3*y2 - 2*L*y2*x2 - 4*M*y2*x2 + 2*l*y2*x2 + 4*m*y2*x2) h13 (dz p))))))))))))))) (by clear h0 h1 h2 h3 h4 h5 h6 h7 h8 h9 h10 h11 h12 h13; grind)
theorem ass_1y {p y7 x7 y5 x5 yt xt ys xs y1 y3 L M l m x1 x3 y2 x2 : Int} (h0 : p ∣ l*(x1-x2)-(y1-y2)) (h1 : p ∣ m*(x2-x3)-(y2-y3)) (h2 : p ∣ xs-(l*l-x1-x2)) (h3 : p ∣ ys-(l*(x1-xs)-y1)) (h4 : p ∣ xt-(m*m-x2-x3)) (h5 : p ∣ yt-(m*(x2-xt)-y2)) (h6 : p ∣ y5-(L*(xs-x5)-ys)) (h7 : p ∣ x7-(M*M-x1-xt)) (h8 : p ∣ y7-(M*(x1-x7)-y1)) (h9 : p ∣ l*(y1+y2)-(x1*x1+x1*x2+x2*x2)) (h10 : p ∣ m*(y2+y3)-(x2*x2+x2*x3+x3*x3)) (h11 : p ∣ L*(xs-x3)-(ys-y3)) (h12 : p ∣ L*(ys+y3)-(xs*xs+xs*x3+x3*x3)) (h13 : p ∣ M*(x1-xt)-(y1-yt)) (h14 : p ∣ xs-x3) (h15 : p ∣ x5-x7) : p ∣ 4 * (y2*y3) * (y5-y7) :=
  dk (dc (-M*M*M*l*x3 + M*M*l*l*x3 + 2*L*M*l*m*x3 + 2*M*M*l*m*x3 - 4*L*l*l*m*x3 - 4*M*l*l*m*x3 + 4*L*M*m*m*x3 - 2*L*l*m*m*x3 - 2*M*l*m*m*x3 + 2*l*l*m*m*x3 - 2*M*m*m*m*x3 + 2*l*m*m*m*x3 + 2*m*m*m*m*x3 + M*M*M*l*x2 - M*M*l*l*x2 - 2*L*M*l*m*x2 - 2*M*M*l*m*x2 + 4*L*l*l*m*x2 + 4*M*l*l*m*x2 - 4*L*M*m*m*x2 + 2*L*l*m*m*x2 + 2*M*l*m*m*x2 - 2*l*l*m*m*x2 + 2*M*m*m*m*x2 - 2*l*m*m*m*x2 - 2*m*m*m*m*x2 + 2*L*m*x1*x3 + 2*M*m*x1*x3 - M*M*x3*x3 - 2*M*l*x3*x3 + 2*l*l*x3*x3 + 6*L*m*x3*x3 - 8*m*m*x3*x3 + 2*M*M*M*y2 + 2*L*M*l*y2 + 4*L*l*l*y2 + 4*L*M*m*y2 - 2*M*M*m*y2 + 6*L*l*m*y2 - 2*M*l*m*y2 - 4*l*l*m*y2 + 8*L*m*m*y2 - 2*M*m*m*y2 - 6*l*m*m*y2 - 8*m*m*m*y2 - 2*L*m*x1*x2 - 2*M*m*x1*x2 + 2*M*M*x3*x2 + M*l*x3*x2 - l*l*x3*x2 - 2*L*m*x3*x2 - 2*M*m*x3*x2 + 4*m*m*x3*x2 + 2*M*M*x2*x2 + 4*M*l*x2*x2 - l*l*x2*x2 - 4*L*m*x2*x2 - 4*M*m*x2*x2 + 3*l*m*x2*x2 + 4*m*m*x2*x2 - 2*x3*x3*x3 - 6*L*x1*y2 - 2*M*x1*y2 + 6*m*x1*y2 - 2*L*x3*y2 + 4*M*x3*y2 + 2*l*x3*y2 - 2*m*x3*y2 + 3*x3*x3*x2 - 4*L*y2*x2 + 4*M*y2*x2 - 2*l*y2*x2 + 8*m*y2*x2 - 3*x1*x2*x2 + 9*x3*x2*x2 + 2*x2*x2*x2 - 4*y2*y2) h0 (dc (-4*y7*y2 + 4*y5*y2 - M*M*M*m*x3 + 4*L*M*l*m*x3 + 2*M*l*l*m*x3 + 2*L*M*m*m*x3 + M*M*m*m*x3 - 2*M*l*m*m*x3 + 2*l*l*m*m*x3 + 2*L*m*m*m*x3 + 2*l*m*m*m*x3 - 2*m*m*m*m*x3 + M*M*M*m*x2 - 4*L*M*l*m*x2 - 2*M*l*l*m*x2 - 2*L*M*m*m*x2 - M*M*m*m*x2 + 2*M*l*m*m*x2 - 2*l*l*m*m*x2 - 2*L*m*m*m*x2 - 2*l*m*m*m*x2 + 2*m*m*m*m*x2 - 2*L*m*x1*x3 - 2*M*m*x1*x3 - 4*L*m*x3*x3 + 4*m*m*x3*x3 + 4*L*M*M*y2 - 2*M*M*M*y2 + 4*L*M*l*y2 + 2*M*M*l*y2 + 2*M*l*l*y2 + 2*L*M*m*y2 + 8*L*l*m*y2 - 2*M*l*m*y2 + 2*l*l*m*y2 - 2*L*m*m*y2 + 4*M*m*m*y2 - 8*l*m*m*y2 + 2*m*m*m*y2 + 2*L*m*x1*x2 + 2*M*m*x1*x2 - 2*L*m*x3*x2 - M*m*x3*x2 + m*m*x3*x2 - 3*M*M*x2*x2 + 6*L*m*x2*x2 + 10*M*m*x2*x2 - 2*m*m*x2*x2 - 2*L*x1*y2 + 2*M*x1*y2 - 4*l*x1*y2 - 4*m*x1*y2 + 8*L*x3*y2 - 2*M*x3*y2 + 2*l*x3*y2 - 12*m*x3*y2 + 6*L*y2*x2 - 6*M*y2*x2 + 2*l*y2*x2 - 2*m*y2*x2 + 3*x1*x2*x2 - 6*x3*x2*x2 - 6*x2*x2*x2) h1 (dc (-2*xs*M*l*m*x3 - 2*xs*M*m*m*x3 - 2*xs*l*m*m*x3 - 2*xs*m*m*m*x3 + 2*xs*M*l*m*x2 + 2*xs*M*m*m*x2 + 2*xs*l*m*m*x2 + 2*xs*m*m*m*x2 - 2*xs*M*M*y2 - 2*xs*M*l*y2 - 2*xs*M*m*y2 - 2*xs*l*m*y2 + 4*xs*x1*y2 - 2*xs*x3*y2 - 2*xs*y2*x2 - M*M*M*x1*x3 + M*M*l*x1*x3 + 2*L*M*m*x1*x3 + 2*M*M*m*x1*x3 - 4*L*l*m*x1*x3 - 2*M*l*m*x1*x3 - 2*L*m*m*x1*x3 - 2*M*m*m*x1*x3 + 4*l*m*m*x1*x3 + 2*m*m*m*x1*x3 + M*M*M*x1*x2 - M*M*l*x1*x2 - 2*L*M*m*x1*x2 - 2*M*M*m*x1*x2 + 4*L*l*m*x1*x2 + 2*M*l*m*x1*x2 + 2*L*m*m*x1*x2 + 2*M*m*m*x1*x2 - 4*l*m*m*x1*x2 - 2*m*m*m*x1*x2 + M*M*M*x3*x2 - M*M*l*x3*x2 - 2*L*M*m*x3*x2 - 2*M*M*m*x3*x2 + 4*L*l*m*x3*x2 + 4*M*l*m*x3*x2 + 2*L*m*m*x3*x2 + 4*M*m*m*x3*x2 - 2*l*m*m*x3*x2 - M*M*M*x2*x2 + M*M*l*x2*x2 + 2*L*M*m*x2*x2 + 2*M*M*m*x2*x2 - 4*L*l*m*x2*x2 - 4*M*l*m*x2*x2 - 2*L*m*m*x2*x2 - 4*M*m*m*x2*x2 + 2*l*m*m*x2*x2 - 2*M*x1*x3*x3 + 2*l*x1*x3*x3 + 2*L*M*x1*y2 + 2*M*M*x1*y2 + 4*L*l*x1*y2 + 2*M*l*x1*y2 + 6*L*m*x1*y2 - 2*M*m*x1*y2 - 2*l*m*x1*y2 - 8*m*m*x1*y2 + 2*M*M*x3*y2 - 8*L*m*x3*y2 - 8*M*m*x3*y2 + 4*m*m*x3*y2 + M*x1*x3*x2 - l*x1*x3*x2 + 2*M*x3*x3*x2 - 2*l*x3*x3*x2 - 2*L*M*y2*x2 - 2*M*M*y2*x2 - 4*L*l*y2*x2 + 2*L*m*y2*x2 + 12*M*m*y2*x2 + 4*l*m*y2*x2 + 4*m*m*y2*x2 + 4*M*x1*x2*x2 - l*x1*x2*x2 + 3*m*x1*x2*x2 - M*x3*x2*x2 + l*x3*x2*x2 - 4*M*x2*x2*x2 + l*x2*x2*x2 - 3*m*x2*x2*x2 - 4*x1*x1*y2 + 4*x1*x3*y2 + 4*x3*x3*y2 + 8*L*y2*y2 - 8*m*y2*y2 - 4*x3*y2*x2) h2 (dc (-2*M*l*l*m*x3 + 4*L*M*m*m*x3 - 2*l*l*m*m*x3 - 2*M*m*m*m*x3 + 2*m*m*m*m*x3 + 2*M*l*l*m*x2 - 4*L*M*m*m*x2 + 2*l*l*m*m*x2 + 2*M*m*m*m*x2 - 2*m*m*m*m*x2 + 2*L*m*x1*x3 + 2*M*m*x1*x3 + 4*L*m*x3*x3 - 2*M*m*x3*x3 - 6*m*m*x3*x3 + 2*M*M*M*y2 - 2*M*M*l*y2 - 2*M*l*l*y2 + 4*L*M*m*y2 - 2*M*M*m*y2 - 2*l*l*m*y2 + 8*L*m*m*y2 - 2*M*m*m*y2 + 2*l*m*m*y2 - 8*m*m*m*y2 - 2*L*m*x1*x2 - 2*M*m*x1*x2 + 2*L*m*x3*x2 + 2*M*m*x3*x2 + 3*M*M*x2*x2 - 6*L*m*x2*x2 - 6*M*m*x2*x2 + 6*m*m*x2*x2 - 6*L*x1*y2 - 2*M*x1*y2 + 4*l*x1*y2 + 6*m*x1*y2 - 4*L*x3*y2 + 2*M*x3*y2 - 2*l*x3*y2 + 4*m*x3*y2 - 2*L*y2*x2 + 6*M*y2*x2 - 2*l*y2*x2 + 2*m*y2*x2 - 3*x1*x2*x2 + 6*x3*x2*x2 + 6*x2*x2*x2 - 4*y2*y2) h3 (dc (M*M*M*x3*x3 - 2*L*M*m*x3*x3 - M*M*m*x3*x3 - 2*L*m*m*x3*x3 + 2*m*m*m*x3*x3 - 2*M*M*M*x3*x2 + 4*L*M*m*x3*x2 + 2*M*M*m*x3*x2 + 4*L*m*m*x3*x2 - 4*m*m*m*x3*x2 + M*M*M*x2*x2 - 2*L*M*m*x2*x2 - M*M*m*x2*x2 - 2*L*m*m*x2*x2 + 2*m*m*m*x2*x2 + 2*M*x3*x3*x3 + 2*m*x3*x3*x3 - 2*L*M*x3*y2 - 2*M*M*x3*y2 + 2*L*m*x3*y2 - 4*M*m*x3*y2 + 2*m*m*x3*y2 - 3*M*x3*x3*x2 - 3*m*x3*x3*x2 + 2*L*M*y2*x2 + 2*M*M*y2*x2 - 2*L*m*y2*x2 + 4*M*m*y2*x2 - 2*m*m*y2*x2 - 3*M*x3*x2*x2 - 3*m*x3*x2*x2 + 4*M*x2*x2*x2 + 4*m*x2*x2*x2 + 4*L*y2*y2 - 8*M*y2*y2 - 4*m*y2*y2) h4 (dc (-M*M*x3*x3 + 2*L*m*x3*x3 + 2*M*m*x3*x3 - 2*m*m*x3*x3 + 2*M*M*x3*x2 - 4*L*m*x3*x2 - 4*M*m*x3*x2 + 4*m*m*x3*x2 - M*M*x2*x2 + 2*L*m*x2*x2 + 2*M*m*x2*x2 - 2*m*m*x2*x2 - 2*x3*x3*x3 + 2*L*x3*y2 + 2*M*x3*y2 - 2*m*x3*y2 + 3*x3*x3*x2 - 2*L*y2*x2 - 2*M*y2*x2 + 2*m*y2*x2 + 3*x3*x2*x2 - 4*x2*x2*x2 + 4*y2*y2) h5 (dc (4*m*x3*y2 - 4*m*y2*x2 + 4*y2*y2) h6 (dc (-4*L*m*x3*y2 + 4*M*m*x3*y2 + 4*L*m*y2*x2 - 4*M*m*y2*x2 - 4*L*y2*y2 + 4*M*y2*y2) h7 (dc (-4*m*x3*y2 + 4*m*y2*x2 - 4*y2*y2) h8 (dc (-M*M*M*x3 + M*M*l*x3 + 2*L*M*m*x3 + 2*M*M*m*x3 - 4*L*l*m*x3 - 2*M*l*m*x3 - 2*L*m*m*x3 - 2*M*m*m*x3 + 4*l*m*m*x3 + 2*m*m*m*x3 + M*M*M*x2 - M*M*l*x2 - 2*L*M*m*x2 - 2*M*M*m*x2 + 4*L*l*m*x2 + 2*M*l*m*x2 + 2*L*m*m*x2 + 2*M*m*m*x2 - 4*l*m*m*x2 - 2*m*m*m*x2 - 2*M*x3*x3 + 2*l*x3*x3 + 2*L*M*y2 + 2*M*M*y2 + 4*L*l*y2 + 2*M*l*y2 + 6*L*m*y2 - 2*M*m*y2 - 2*l*m*y2 - 8*m*m*y2 + M*x3*x2 - l*x3*x2 + 4*M*x2*x2 - l*x2*x2 + 3*m*x2*x2 - 4*x1*y2 + 4*x3*y2) h9 (dc (M*M*M*x3 - 2*L*M*m*x3 - M*M*m*x3 + 4*L*l*m*x3 + 2*M*l*m*x3 + 2*L*m*m*x3 + 2*M*m*m*x3 - 2*l*m*m*x3 - M*M*M*x2 + 2*L*M*m*x2 + M*M*m*x2 - 4*L*l*m*x2 - 2*M*l*m*x2 - 2*L*m*m*x2 - 2*M*m*m*x2 + 2*l*m*m*x2 + 2*M*x3*x3 + 2*m*x3*x3 - 2*L*M*y2 + 2*M*M*y2 - 4*L*l*y2 + 2*M*l*y2 - 6*L*m*y2 - 2*M*m*y2 + 6*l*m*y2 + 6*m*m*y2 - M*x3*x2 - m*x3*x2 - 4*M*x2*x2 - 4*m*x2*x2 - 2*x1*y2 + 4*x3*y2 + 4*y2*x2) h10 (dc (-2*L*M*l*m*x3 - 2*M*l*l*m*x3 + 2*L*M*m*m*x3 - 2*L*l*m*m*x3 - 2*l*l*m*m*x3 - 2*L*m*m*m*x3 - 2*M*m*m*m*x3 + 2*m*m*m*m*x3 + 2*L*M*l*m*x2 + 2*M*l*l*m*x2 - 2*L*M*m*m*x2 + 2*L*l*m*m*x2 + 2*l*l*m*m*x2 + 2*L*m*m*m*x2 + 2*M*m*m*m*x2 - 2*m*m*m*m*x2 + 2*L*m*x1*x3 + 2*M*m*x1*x3 + 4*L*m*x3*x3 - 2*M*m*x3*x3 - 6*m*m*x3*x3 - 2*L*M*M*y2 + 2*M*M*M*y2 - 2*L*M*l*y2 - 2*M*M*l*y2 - 2*M*l*l*y2 + 2*L*M*m*y2 - 2*M*M*m*y2 - 2*L*l*m*y2 - 2*l*l*m*y2 + 8*L*m*m*y2 - 2*M*m*m*y2 + 2*l*m*m*y2 - 8*m*m*m*y2 - 2*L*m*x1*x2 - 2*M*m*x1*x2 + 2*L*m*x3*x2 + 2*M*m*x3*x2 + 3*M*M*x2*x2 - 6*L*m*x2*x2 - 6*M*m*x2*x2 + 6*m*m*x2*x2 - 2*L*x1*y2 - 2*M*x1*y2 + 4*l*x1*y2 + 6*m*x1*y2 - 6*L*x3*y2 + 2*M*x3*y2 - 2*l*x3*y2 + 8*m*x3*y2 - 4*L*y2*x2 + 6*M*y2*x2 - 2*l*y2*x2 - 2*m*y2*x2 - 3*x1*x2*x2 + 6*x3*x2*x2 + 6*x2*x2*x2) h11 (dc (-2*M*l*m*x3 - 2*M*m*m*x3 - 2*l*m*m*x3 - 2*m*m*m*x3 + 2*M*l*m*x2 + 2*M*m*m*x2 + 2*l*m*m*x2 + 2*m*m*m*x2 - 2*M*M*y2 - 2*M*l*y2 - 2*M*m*y2 - 2*l*m*y2 + 4*x1*y2 - 2*x3*y2 - 2*y2*x2) h12 (dc (M*M*x3*x3 - 2*L*m*x3*x3 - 2*M*m*x3*x3 + 2*m*m*x3*x3 - 2*M*M*x3*x2 + 4*L*m*x3*x2 + 4*M*m*x3*x2 - 4*m*m*x3*x2 + M*M*x2*x2 - 2*L*m*x2*x2 - 2*M*m*x2*x2 + 2*m*m*x2*x2 + 2*x3*x3*x3 - 2*L*x3*y2 - 2*M*x3*y2 + 2*m*x3*y2 - 3*x3*x3*x2 + 2*L*y2*x2 + 2*M*y2*x2 - 2*m*y2*x2 - 3*x3*x2*x2 + 4*x2*x2*x2 - 4*y2*y2) h13 (dc (2*L*L*M*l*m*x3 + 2*L*M*l*l*m*x3 - 2*L*L*M*m*m*x3 + 2*L*L*l*m*m*x3 - 4*L*M*l*m*m*x3 + 2*L*l*l*m*m*x3 - 2*M*l*l*m*m*x3 + 2*L*L*m*m*m*x3 + 2*L*M*m*m*m*x3 + 2*M*l*m*m*m*x3 - 2*l*l*m*m*m*x3 - 2*L*m*m*m*m*x3 - 2*l*m*m*m*m*x3 - 2*L*L*M*l*m*x2 - 2*L*M*l*l*m*x2 + 2*L*L*M*m*m*x2 - 2*L*L*l*m*m*x2 + 4*L*M*l*m*m*x2 - 2*L*l*l*m*m*x2 + 2*M*l*l*m*m*x2 - 2*L*L*m*m*m*x2 - 2*L*M*m*m*m*x2 - 2*M*l*m*m*m*x2 + 2*l*l*m*m*m*x2 + 2*L*m*m*m*m*x2 + 2*l*m*m*m*m*x2 + M*M*M*x1*x3 - M*M*l*x1*x3 - 2*L*L*m*x1*x3 - 4*L*M*m*x1*x3 - 2*M*M*m*x1*x3 + 2*L*l*m*x1*x3 + 2*M*l*m*x1*x3 + 2*L*m*m*x1*x3 + 4*M*m*m*x1*x3 - 2*l*m*m*x1*x3 - 4*L*L*m*x3*x3 + 2*L*M*m*x3*x3 - 4*L*l*m*x3*x3 + 6*L*m*m*x3*x3 - 2*M*m*m*x3*x3 + 4*l*m*m*x3*x3 - 2*m*m*m*x3*x3 + 2*L*L*M*M*y2 - 2*L*M*M*M*y2 + 2*L*L*M*l*y2 + 2*L*M*M*l*y2 - 2*M*M*M*l*y2 + 2*L*M*l*l*y2 - 2*L*L*M*m*y2 + 2*L*M*M*m*y2 + 2*L*L*l*m*y2 - 4*L*M*l*m*y2 + 2*M*M*l*m*y2 + 2*L*l*l*m*y2 - 2*M*l*l*m*y2 - 8*L*L*m*m*y2 + 2*L*M*m*m*y2 - 10*L*l*m*m*y2 + 2*M*l*m*m*y2 - 2*l*l*m*m*y2 + 8*L*m*m*m*y2 + 8*l*m*m*m*y2 - M*M*M*x1*x2 + M*M*l*x1*x2 + 2*L*L*m*x1*x2 + 4*L*M*m*x1*x2 + 2*M*M*m*x1*x2 - 2*L*l*m*x1*x2 - 2*M*l*m*x1*x2 - 2*L*m*m*x1*x2 - 4*M*m*m*x1*x2 + 2*l*m*m*x1*x2 - M*M*M*x3*x2 + M*M*l*x3*x2 - 2*L*L*m*x3*x2 + 2*M*M*m*x3*x2 - 6*L*l*m*x3*x2 - 2*M*l*m*x3*x2 - 2*L*m*m*x3*x2 + 6*l*m*m*x3*x2 + 4*m*m*m*x3*x2 - 3*L*M*M*x2*x2 + M*M*M*x2*x2 - 4*M*M*l*x2*x2 + 6*L*L*m*x2*x2 + 4*L*M*m*x2*x2 - 2*M*M*m*x2*x2 + 10*L*l*m*x2*x2 + 8*M*l*m*x2*x2 - 4*L*m*m*x2*x2 + 2*M*m*m*x2*x2 - 10*l*m*m*x2*x2 - 2*m*m*m*x2*x2 + 2*M*x1*x3*x3 - 2*l*x1*x3*x3 + 2*L*L*x1*y2 - 2*L*l*x1*y2 + 2*M*l*x1*y2 - 12*L*m*x1*y2 + 4*M*m*x1*y2 - 2*l*m*x1*y2 + 8*m*m*x1*y2 + 6*L*L*x3*y2 - 2*L*M*x3*y2 - 4*M*M*x3*y2 + 6*L*l*x3*y2 - 4*M*l*x3*y2 + 4*L*m*x3*y2 + 6*M*m*x3*y2 - 6*l*m*x3*y2 - 4*m*m*x3*y2 - M*x1*x3*x2 + l*x1*x3*x2 - 2*M*x3*x3*x2 + 2*l*x3*x3*x2 + 4*L*L*y2*x2 - 4*L*M*y2*x2 + 4*M*M*y2*x2 + 8*L*l*y2*x2 - 4*M*l*y2*x2 - 4*L*m*y2*x2 - 10*M*m*y2*x2 - 4*l*m*y2*x2 - 4*m*m*y2*x2 + 3*L*x1*x2*x2 - 4*M*x1*x2*x2 + 4*l*x1*x2*x2 - 3*m*x1*x2*x2 - 6*L*x3*x2*x2 + M*x3*x2*x2 - 7*l*x3*x2*x2 - 6*L*x2*x2*x2 + 4*M*x2*x2*x2 - 7*l*x2*x2*x2 + 3*m*x2*x2*x2 + 2*x1*x3*y2 - 6*x3*x3*y2 - 4*L*y2*y2 + 4*l*y2*y2 + 8*m*y2*y2 - 2*x1*y2*x2 + 4*x3*y2*x2 + 2*y2*x2*x2) h14 (dc (-4*L*m*x3*y2 + 4*L*m*y2*x2 - 4*L*y2*y2) h15 (dz p))))))))))))))))) (by clear h0 h1 h2 h3 h4 h5 h6 h7 h8 h9 h10 h11 h12 h13 h14 h15; grind)
end Go.Proofs.Ytkedomfjjahjnaa
