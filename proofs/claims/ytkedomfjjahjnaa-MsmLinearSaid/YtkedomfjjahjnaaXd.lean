/- A symbolic machine for Go code over plain data, and functions of the program as it shows them. No statement is proved in this file. -/
import Derived.KernelRfl
import Derived.Test.YtkedomfjjahjnaaXc
set_option linter.unusedSimpArgs false
set_option linter.unusedVariables false
set_option linter.unusedSectionVars false

namespace Go.Proofs.Ytkedomfjjahjnaa
open Sx Go
set_option maxRecDepth 100000
def iu : ap := ⟨[.val true (.prod .elem (.prod .int (.prod .u64 (.prod .u64 .elem)))), .val true .elem, .val true .elem], [], true, 0, false⟩
abbrev E4 : Type := (((aa × (Int × (UInt64 × (UInt64 × aa))))) × (aa) × (aa) × Unit) × (Unit)
def tN : Shape := ⟨61, [(3, .ptr 0 0 0), (4, .ptr 1 0 0), (6, .ptr 2 0 0), (7, .ptr 3 0 0), (13, .val true .elem), (14, .val false .int)], [(0, .cells [.val false .u64, .val false .u64, .val false .u64, .val false .u64, .val false .int, .val false .u64, .val false .u64, .val false .u64, .val false .u64, .val false .u64, .val false .u64]), (1, .row .u64), (2, .row .u64), (3, .row .u64)], 0, true⟩
abbrev b9 : Type := ((Unit) × (Unit) × (Unit) × (Unit) × (aa) × (Int) × Unit) × (((UInt64) × (UInt64) × (UInt64) × (UInt64) × (Int) × (UInt64) × (UInt64) × (UInt64) × (UInt64) × (UInt64) × (UInt64) × Unit) × (List (UInt64)) × (List (UInt64)) × (List (UInt64)) × Unit)
def pP : Shape := ⟨61, [(3, .ptr 0 0 0), (6, .ptr 1 0 0), (7, .ptr 2 0 0)], [(0, .cells [.val false .u64, .val false .u64, .val false .u64, .val false .u64, .val false .int, .val false .u64, .val false .u64, .val false .u64, .val false .u64, .val false .u64, .val false .u64]), (1, .row .u64), (2, .row .u64)], 0, true⟩
abbrev jH : Type := ((Unit) × (Unit) × (Unit) × Unit) × (((UInt64) × (UInt64) × (UInt64) × (UInt64) × (Int) × (UInt64) × (UInt64) × (UInt64) × (UInt64) × (UInt64) × (UInt64) × Unit) × (List (UInt64)) × (List (UInt64)) × Unit)
def Sw : SE → Option Shape := ku [(0, pP)] none
def Hs (a13 : aa) (a14 : Int) (c0_0 : UInt64) (c0_1 : UInt64) (c0_2 : UInt64) (c0_3 : UInt64) (c0_4 : Int) (c0_5 : UInt64) (c0_6 : UInt64) (c0_7 : UInt64) (c0_8 : UInt64) (c0_9 : UInt64) (c0_10 : UInt64) (c1 : List (UInt64)) (c2 : List (UInt64)) (c3 : List (UInt64)) : OT (Sum b9 aQ) :=
  let z0 : Nat := List.length c3
  let z1 : List UInt64 := lay c3 (l6 (v6 (tab c3 6 (0 : UInt64)) + aa.nat { w0 := List.getD c1 0 0, w1 := List.getD c1 1 0, w2 := List.getD c1 2 0, w3 := List.getD c1 3 0 } * UInt64.toNat (List.getD [a13.w0, a13.w1, a13.w2, a13.w3] (Int.toNat a14) (0 : UInt64)))) 6 (0 : UInt64)
  let z2 : Nat := List.length z1
  let z3 : List UInt64 := lay z1 (l6 (v6 (tab z1 6 (0 : UInt64)) + aa.nat { w0 := c0_0, w1 := c0_1, w2 := c0_2, w3 := c0_3 } * UInt64.toNat (List.getD z1 0 0 * c0_6))) 6 (0 : UInt64)
  let z4 : Nat := List.length z3
  (.br (decide (a14 < (4 : Int)))
  (gd [inB a14 4, decide (6 ≤ z0), decide (4 ≤ List.length c1), decide ((6 / 1 : Nat) + 0 ≤ z0), decide (6 ≤ z2), decide (0 < z2), decide ((6 / 1 : Nat) + 0 ≤ z2), decide (1 < z4), decide (2 < z4), decide (3 < z4), decide (4 < z4), decide (5 < z4), decide ((6 / 1 : Nat) + 0 ≤ z4), inR (a14 + (1 : Int))] (.ok (.inl (((), ((), ((), ((), (a13, (a14 + (1 : Int), ())))))), ((c0_0, (c0_1, (c0_2, (c0_3, (c0_4, (c0_5, (c0_6, (c0_7, (c0_8, (c0_9, (c0_10, ()))))))))))), (c1, (c2, (List.set (List.set (List.set (List.set (List.set (List.set z3 0 (List.getD z3 1 0)) 1 (List.getD z3 2 0)) 2 (List.getD z3 3 0)) 3 (List.getD z3 4 0)) 4 (List.getD z3 5 0)) 5 (0 : UInt64), ()))))))))
  (.ok (.inr ⟨(.exit 0, pP), (((), ((), ((), ()))), ((c0_0, (c0_1, (c0_2, (c0_3, (c0_4, (c0_5, (c0_6, (c0_7, (c0_8, (c0_9, (c0_10, ()))))))))))), (c2, (c3, ()))))⟩)))
def tO (s : b9) : OT (Sum b9 aQ) := Hs (s.1.2.2.2.2.1) (s.1.2.2.2.2.2.1) (s.2.1.1) (s.2.1.2.1) (s.2.1.2.2.1) (s.2.1.2.2.2.1) (s.2.1.2.2.2.2.1) (s.2.1.2.2.2.2.2.1) (s.2.1.2.2.2.2.2.2.1) (s.2.1.2.2.2.2.2.2.2.1) (s.2.1.2.2.2.2.2.2.2.2.1) (s.2.1.2.2.2.2.2.2.2.2.2.1) (s.2.1.2.2.2.2.2.2.2.2.2.2.1) (s.2.2.1) (s.2.2.2.1) (s.2.2.2.2.1)
theorem aeQ (s : b9) (Q : Sum b9 aQ → Prop) : wps te FQ ay 1000 (bJ (al Try.f110) 0) (tN.inj s) (cW tN Sw (Q : Sum tN.T aQ → Prop)) = (tO s).wpR Q := by kernel_rfl
def zm (g0_0 : b9 → jH) (s : b9) : OT aQ := (.ok ⟨(.exit 0, pP), g0_0 s⟩)
def pO : az := ⟨[.val true .elem], [], false⟩
def KU : SV → Option az := fun _ => some pO
def OV (ok0 : b9 → Bool) (g0_0 : b9 → jH) (a0 : (aa × (Int × (UInt64 × (UInt64 × aa))))) (a1 : aa) (a2 : aa) : OT iu.Y :=
  let z0 : (PUnit × PUnit × PUnit × PUnit × aa × Int × PUnit) × (UInt64 × UInt64 × UInt64 × UInt64 × Int × UInt64 × UInt64 × UInt64 × UInt64 × UInt64 × UInt64 × PUnit) × List UInt64 × List UInt64 × List UInt64 × PUnit := (((), (), (), (), a2, (0 : Int), ()), (a0.fst.w0, a0.fst.w1, a0.fst.w2, a0.fst.w3, a0.snd.fst, a0.snd.snd.fst, a0.snd.snd.snd.fst, a0.snd.snd.snd.snd.w0, a0.snd.snd.snd.snd.w1, a0.snd.snd.snd.snd.w2, a0.snd.snd.snd.snd.w3, ()), [a1.w0, a1.w1, a1.w2, a1.w3], [(0 : UInt64), (0 : UInt64), (0 : UInt64), (0 : UInt64)], [(0 : UInt64), (0 : UInt64), (0 : UInt64), (0 : UInt64), (0 : UInt64), (0 : UInt64)], ())
  let z1 := (g0_0 z0).snd
  let z2 := z1.snd
  let z3 := z2.snd.fst
  let z4 : Nat := List.length z3
  let z5 := z2.fst
  let z6 : Nat := List.length z5
  let z7 : Bool := decide ((4 / 1 : Nat) + 0 ≤ z6)
  let z8 := z1.fst
  let z9 := z8.snd
  let z10 := z9.snd
  let z11 : aa × Bool := kx { w0 := List.getD z3 0 0, w1 := List.getD z3 1 0, w2 := List.getD z3 2 0, w3 := List.getD z3 3 0 } { w0 := z8.fst, w1 := z9.fst, w2 := z10.fst, w3 := z10.snd.fst }
  let z12 := z11.fst
  let z13 : List UInt64 := List.set (List.set (List.set (List.set z5 0 z12.w0) 1 z12.w1) 2 z12.w2) 3 z12.w3
  let z14 : Bool := decide (4 ≤ List.length z13)
  let z15 : aa := { w0 := List.getD z13 0 0, w1 := List.getD z13 1 0, w2 := List.getD z13 2 0, w3 := List.getD z13 3 0 }
  let z16 : List UInt64 := lay z5 z3 4 (0 : UInt64)
  (gd [ok0 z0, decide (6 ≤ z4) && true, decide (4 ≤ z4), decide (4 < z4)] (.br (!List.getD z3 4 0 == (0 : UInt64))
  (gd [z7, z14] (.ok ⟨pO, ((z15, ()), ())⟩))
  (.br (!z11.snd)
    (gd [z7, z14] (.ok ⟨pO, ((z15, ()), ())⟩))
    (gd [decide ((4 / 1 : Nat) + 0 ≤ z6), decide (4 ≤ List.length z16)] (.ok ⟨pO, (({ w0 := List.getD z16 0 0, w1 := List.getD z16 1 0, w2 := List.getD z16 2 0, w3 := List.getD z16 3 0 }, ()), ())⟩)))))
theorem ai3 (ok0 : b9 → Bool) (g0_0 : b9 → jH) (x : E4) (Q : iu.Y → Prop) : wpf te FQ (bx 0 (dw tN 0 ok0 (zm g0_0)) ay) 1000 Try.f110 (iu.inp.inj x).tm (iu.inp.inj x).hp (fnK iu KU Q) (fun _ _ => False) = (OV ok0 g0_0 (x.1.1) (x.1.2.1) (x.1.2.2.1)).wpR Q := by kernel_rfl
theorem Vk (ok0 : b9 → Bool) (g0_0 : b9 → jH) (h0 : ∀ s : b9, ok0 s = true → ∃ m e, aq (tO) m s = some e ∧ (zm g0_0 s).run = some e) (pre : E4 → Bool) (F : E4 → OT iu.Y) (hF : ∀ (x : E4) oy, pre x = true → (F x).run = some oy → (OV ok0 g0_0 (x.1.1) (x.1.2.1) (x.1.2.2.1)).run = some oy) : ab Try.prog 110 (iu.aK pre F) :=
  aE au uN FP (f := 110) (fn := Try.f110) (c := al Try.f110) (by kernel_rfl) (by kernel_rfl) (by kernel_rfl) (S := iu) (k := 0) (by kernel_rfl) (fun R hR => (aI (c := (al Try.f110)) (by kernel_rfl) (id := 0) (by kernel_rfl) (bA au uN FP (sh := tN) hR (xs := Sw) (aH (by kernel_rfl) (by kernel_rfl) hR) aX af (n := 1000) (T := tO) (fun s Q => aeQ s Q) (ok := ok0) (f := zm g0_0) h0) af)) (n := 1000) (sel := KU) (fun v o h => by cases h; rfl) (pre := pre) (F := F) (T := fun x => OV ok0 g0_0 (x.1.1) (x.1.2.1) (x.1.2.2.1)) (fun x Q => ai3 ok0 g0_0 x Q) hF
def ir (n : IJ) : Bool := decide (n = bM 2) || decide (n = bM 3)
theorem gj {n : IJ} (h : ir n = true) : n = bM 2 ∨ n = bM 3 := by
  simpa [ir] using h
def adF (n : IJ) : Nat := if n.2.2.2.1 == 11037532056220336127 then 15353493766103302224812374511606760489073247795810767472367693728416386214313 else 14238205147845459960272226733876560297615832660064601289232577236146637664127
theorem aaU {n : IJ} (h : ir n = true) : (n.1.nat * n.2.2.2.1.toNat + 1) % 18446744073709551616 = 0 := by
  rcases gj h with rfl | rfl <;> decide +kernel
theorem aaV {n : IJ} (h : ir n = true) : 115792089237316195423570985008687907853269984665640564039457584007913129639936 * adF n % n.1.nat = 1 % n.1.nat := by
  rcases gj h with rfl | rfl <;> decide +kernel
theorem aaS {n : IJ} (h : ir n = true) : 2 * n.1.nat ≤ 115792089237316195423570985008687907853269984665640564039457584007913129639936 := by
  rcases gj h with rfl | rfl <;> decide +kernel
theorem amK (n : Nat) : tab (l6 n) 6 0 = l6 n := rfl
theorem aeK {n : Nat} (h : n / 18446744073709551616 / 18446744073709551616 / 18446744073709551616 / 18446744073709551616 / 18446744073709551616 / 18446744073709551616 = 0) :
    [UInt64.ofNat (n / 18446744073709551616), UInt64.ofNat (n / 18446744073709551616 / 18446744073709551616), UInt64.ofNat (n / 18446744073709551616 / 18446744073709551616 / 18446744073709551616),
      UInt64.ofNat (n / 18446744073709551616 / 18446744073709551616 / 18446744073709551616 / 18446744073709551616), UInt64.ofNat (n / 18446744073709551616 / 18446744073709551616 / 18446744073709551616 / 18446744073709551616 / 18446744073709551616), 0] = l6 (n / 18446744073709551616) := by
  unfold l6
  rw [h]
  rfl
theorem amM (a b : Nat) : lay (l6 a) (l6 b) 6 0 = l6 b := aaA rfl rfl
theorem acU (U : Nat) (neg : UInt64) : (List.getD (l6 U) 0 0 * neg).toNat = U * neg.toNat % 18446744073709551616 := by
  show (UInt64.ofNat U * neg).toNat = _
  rw [UInt64.toNat_mul, UInt64.toNat_ofNat', Nat.mul_mod, Nat.mod_mod, ← Nat.mul_mod]
theorem Vj (b : aa) (k : Nat) (hk : k < 4) (x0 x1 x2 x3 x5 x6 x7 x8 x9 x10 : UInt64) (x4 : Int) (c1 c2 : List UInt64) (T : Nat) (h1 : c1.length = 4) (hT : T < 2 * (aa.mk x0 x1 x2 x3).nat)
    (hn : ((aa.mk x0 x1 x2 x3).nat * x6.toNat + 1) % 18446744073709551616 = 0) (hp : 2 * (aa.mk x0 x1 x2 x3).nat ≤ 115792089237316195423570985008687907853269984665640564039457584007913129639936) (ha : (elemOf c1).nat < (aa.mk x0 x1 x2 x3).nat) :
    (Hs b (k : Int) x0 x1 x2 x3 x4 x5 x6 x7 x8 x9 x10 c1 c2 (l6 T)).run = some (.inl (((), (), (), (), b, ((k + 1 : Nat) : Int), ()), ((x0, x1, x2, x3, x4, x5, x6, x7, x8, x9, x10, ()), c1, c2, l6 (zO (aa.mk x0 x1 x2 x3).nat x6.toNat (elemOf c1).nat ((lst b).getD k 0).toNat T), ()))) := by
  have hlt := o8 (b := ((lst b).getD k 0).toNat) hn hT ha (UInt64.toNat_lt _)
  have heq := o9 (a := (elemOf c1).nat) (b := ((lst b).getD k 0).toNat) (t := T) hn
  have hrd : zO (aa.mk x0 x1 x2 x3).nat x6.toNat (elemOf c1).nat ((lst b).getD k 0).toNat T = (T + (elemOf c1).nat * ((lst b).getD k 0).toNat + (aa.mk x0 x1 x2 x3).nat * ((T + (elemOf c1).nat * ((lst b).getD k 0).toNat) * x6.toNat % 18446744073709551616)) / 18446744073709551616 := rfl
  generalize hU : T + (elemOf c1).nat * ((lst b).getD k 0).toNat = U at heq hrd
  generalize hV : U + (aa.mk x0 x1 x2 x3).nat * (U * x6.toNat % 18446744073709551616) = V at heq hrd
  generalize zO (aa.mk x0 x1 x2 x3).nat x6.toNat (elemOf c1).nat ((lst b).getD k 0).toNat T = S at *
  have hVU : U ≤ V := by rw [← hV]; exact Nat.le_add_right _ _
  have hz1 : lay (l6 T) (l6 (v6 (tab (l6 T) 6 0) + aa.nat { w0 := List.getD c1 0 0, w1 := List.getD c1 1 0, w2 := List.getD c1 2 0, w3 := List.getD c1 3 0 } * UInt64.toNat (List.getD [b.w0, b.w1, b.w2, b.w3] (Int.toNat (k : Int)) 0))) 6 0 = l6 U := by
    rw [amK, akl (by omega), amM, Int.toNat_natCast]
    exact congrArg l6 hU
  have hz3 : lay (l6 U) (l6 (v6 (tab (l6 U) 6 0) + aa.nat { w0 := x0, w1 := x1, w2 := x2, w3 := x3 } * UInt64.toNat (List.getD (l6 U) 0 0 * x6))) 6 0 = l6 V := by
    rw [amK, akl (by omega), amM, acU, hV]
  have hsh : _ = l6 (V / 18446744073709551616) := aeK (n := V) (by omega)
  unfold Hs
  simp only [hz1, hz3]
  refine (OT.ao (decide_eq_true (by omega))).trans ((ai ?_).trans ?_)
  · simp only [aaD, h1, List.all_cons, List.all_nil, Bool.and_true, Bool.and_eq_true]
    exact ⟨bU (by omega), rfl, rfl, rfl, rfl, rfl, rfl, rfl, rfl, rfl, rfl, rfl, rfl, bC (by omega)⟩
  · rw [hrd]
    exact congrArg (fun l => some (Sum.inl (((), (), (), (), b, ((k + 1 : Nat) : Int), ()), ((x0, x1, x2, x3, x4, x5, x6, x7, x8, x9, x10, ()), c1, c2, l, ())))) hsh
def ace (s : b9) : aa := ⟨s.2.1.1, s.2.1.2.1, s.2.1.2.2.1, s.2.1.2.2.2.1⟩
def ajP (s : b9) : UInt64 := s.2.1.2.2.2.2.2.2.1
def KV (s : b9) : Bool := decide (s.1.2.2.2.2.2.1 = 0 ∧ s.2.2.1.length = 4 ∧ s.2.2.2.2.1 = l6 0 ∧ ((ace s).nat * (ajP s).toNat + 1) % 18446744073709551616 = 0 ∧ 2 * (ace s).nat ≤ 115792089237316195423570985008687907853269984665640564039457584007913129639936 ∧ (elemOf s.2.2.1).nat < (ace s).nat)
def Hr (s : b9) : jH := (((), (), (), ()), (s.2.1, s.2.2.2.1, l6 (akW (ace s).nat (ajP s).toNat (elemOf s.2.2.1).nat s.1.2.2.2.2.1), ()))
theorem aeS : ∀ s : b9, KV s = true → ∃ m e, aq tO m s = some e ∧ (zm Hr s).run = some e := by
  rintro ⟨⟨⟨⟩, ⟨⟩, ⟨⟩, ⟨⟩, b, i, ⟨⟩⟩, ⟨⟨x0, x1, x2, x3, x4, x5, x6, x7, x8, x9, x10, ⟨⟩⟩, c1, c2, c3, ⟨⟩⟩⟩ h
  have h' := of_decide_eq_true h
  dsimp only [ace, ajP] at h'
  obtain ⟨rfl, h1, rfl, hn, hp, ha⟩ := h'
  have := (bI (T := tO) (fun k T => ((((), (), (), (), b, (k : Int), ()), ((x0, x1, x2, x3, x4, x5, x6, x7, x8, x9, x10, ()), c1, c2, l6 T, ())) : b9)) (fun k T => zO (aa.mk x0 x1 x2 x3).nat x6.toNat (elemOf c1).nat ((lst b).getD k 0).toNat T)
    (fun T => (⟨(.exit 0, pP), (((), (), (), ()), ((x0, x1, x2, x3, x4, x5, x6, x7, x8, x9, x10, ()), c2, l6 T, ()))⟩ : aQ)) 4 0 (fun _ T => T < 2 * (aa.mk x0 x1 x2 x3).nat) (by omega) (fun k T hk hT => ⟨?_, ?_⟩) (fun T hT => ?_)).1
  · obtain ⟨m, hm⟩ := this
    exact ⟨m, _, hm, rfl⟩
  · exact Vj b k hk x0 x1 x2 x3 x5 x6 x7 x8 x9 x10 x4 c1 c2 T h1 hT hn hp ha
  · exact o8 hn hT ha (UInt64.toNat_lt _)
  · exact OT.ax (decide_eq_false (by dsimp only; omega))
def oi (x : E4) : Bool := ir x.1.1 && Nat.blt x.1.2.1.nat x.1.1.1.nat
def aa0 (x : E4) : OT iu.Y := .ok ⟨pO, ((ofN (x.1.2.1.nat * x.1.2.2.1.nat * adF x.1.1 % x.1.1.1.nat), ()), ())⟩
theorem aeR : ab Try.prog 110 (iu.aK oi aa0) := Vk KV Hr aeS _ _ fun x oy hp ho => by
  rw [← ho]
  clear ho
  obtain ⟨⟨⟨⟨m0, m1, m2, m3⟩, ad, sm, neg, sq⟩, a, b, ⟨⟩⟩, ⟨⟩⟩ := x
  have hp' : (ir (⟨m0, m1, m2, m3⟩, ad, sm, neg, sq) && Nat.blt a.nat (aa.mk m0 m1 m2 m3).nat) = true := hp
  rw [Bool.and_eq_true] at hp'
  obtain ⟨hg, ha⟩ := hp'
  have ha := cC ha
  have hn : ((aa.mk m0 m1 m2 m3).nat * neg.toNat + 1) % 18446744073709551616 = 0 := aaU hg
  have h2 : 2 * (aa.mk m0 m1 m2 m3).nat ≤ 115792089237316195423570985008687907853269984665640564039457584007913129639936 := aaS hg
  have hr : 115792089237316195423570985008687907853269984665640564039457584007913129639936 * adF (⟨m0, m1, m2, m3⟩, ad, sm, neg, sq) % (aa.mk m0 m1 m2 m3).nat = 1 % (aa.mk m0 m1 m2 m3).nat := aaV hg
  have hM := aez (a := a.nat) (b := b) hn hr
  have hL := aiV (b := b) hn ha
  refine (ai ?_).trans ?_
  · simp only [List.all_cons, List.all_nil, Bool.and_true, Bool.and_eq_true]
    exact ⟨decide_eq_true ⟨rfl, rfl, rfl, hn, h2, ha⟩, rfl, rfl, rfl⟩
  · show _ = (OT.ok ⟨pO, ((ofN (a.nat * b.nat * adF (⟨m0, m1, m2, m3⟩, ad, sm, neg, sq) % (aa.mk m0 m1 m2 m3).nat), ()), ())⟩ : OT iu.Y).run
    rw [← hM, aiW hL]
    have e0 : Hr (((), (), (), (), b, 0, ()), ((m0, m1, m2, m3, ad, sm, neg, sq.w0, sq.w1, sq.w2, sq.w3, ()), [a.w0, a.w1, a.w2, a.w3], [0, 0, 0, 0], [0, 0, 0, 0, 0, 0], ())) = (((), (), (), ()), ((m0, m1, m2, m3, ad, sm, neg, sq.w0, sq.w1, sq.w2, sq.w3, ()), [0, 0, 0, 0], l6 (akW (aa.mk m0 m1 m2 m3).nat neg.toNat a.nat b), ())) := rfl
    dsimp only
    rw [e0]
    clear e0 hM
    generalize akW (aa.mk m0 m1 m2 m3).nat neg.toNat a.nat b = M at *
    have e4 : List.getD (l6 M) 4 0 = 0 := by
      show UInt64.ofNat (M / 18446744073709551616 / 18446744073709551616 / 18446744073709551616 / 18446744073709551616) = 0
      rw [show M / 18446744073709551616 / 18446744073709551616 / 18446744073709551616 / 18446744073709551616 = 0 by omega]
      rfl
    refine (OT.ax (by rw [e4]; rfl)).trans ?_
    have eN : (ofN M).nat = M := gG (by omega)
    by_cases hlt : M < (aa.mk m0 m1 m2 m3).nat
    · rw [if_pos hlt]
      refine (OT.ax ?_).trans ((ai rfl).trans rfl)
      show (!Nat.blt (ofN M).nat (aa.mk m0 m1 m2 m3).nat) = false
      rw [eN, show Nat.blt M (aa.mk m0 m1 m2 m3).nat = true from Nat.ble_eq_true_of_le hlt]
      rfl
    · rw [if_neg hlt]
      refine (OT.ao ?_).trans ((ai rfl).trans ?_)
      · show (!Nat.blt (ofN M).nat (aa.mk m0 m1 m2 m3).nat) = true
        rw [eN]
        cases hb : Nat.blt M (aa.mk m0 m1 m2 m3).nat
        · rfl
        · exact absurd (cC hb) hlt
      · have ew : (kx (ofN M) (aa.mk m0 m1 m2 m3)).1 = ofN (M - (aa.mk m0 m1 m2 m3).nat) := by
          apply js
          rw [lW (by omega), eN, gG (by omega)]
        rw [← ew]
        rfl
def wu : cK := (iu.aK oi aa0)
theorem OU : ab Try.prog 110 wu := aeR
theorem OS : aL wu := aD
def C5 : Env := aA 110 wu FQ
theorem xk : aW Try.prog C5 := ag OU uN
theorem yw : av C5 := ac OS Dq
theorem Qc : bm Try.prog te C5 := aP follows au xk yw
def iw : ap := ⟨[.val true (.prod .elem (.prod .int (.prod .u64 (.prod .u64 .elem)))), .val true .elem, .val true .elem], [], true, 0, false⟩
abbrev E7 : Type := (((aa × (Int × (UInt64 × (UInt64 × aa))))) × (aa) × (aa) × Unit) × (Unit)
def mG : az := ⟨[.val true .elem], [], false⟩
def K5 : SV → Option az := fun _ => some mG
def rK (a0 : (aa × (Int × (UInt64 × (UInt64 × aa))))) (a1 : aa) (a2 : aa) : OT iw.Y :=
  let z0 : Bool := !a0.snd.snd.fst == (0 : UInt64)
  let z1 : Nat := aa.nat a0.fst
  let z2 : aa := ofN (aa.nat a1 % z1)
  let z3 : aa := ofN (aa.nat a2 % z1)
  let z4 : Nat := adF a0
  let z5 : aa := ofN (aa.nat z2 * aa.nat z3 * z4 % z1)
  (gd [gk ((a0, a1, ()), ()), gk ((a0, a2, ()), ())] (.br (z0)
  (gd [z0] (.ok ⟨mG, (({ w0 := z2.w0 * z3.w0 % a0.snd.snd.fst, w1 := 0, w2 := 0, w3 := 0 }, ()), ())⟩))
  (gd [oi ((a0, z2, z3, ()), ()), oi ((a0, z5, a0.snd.snd.snd.snd, ()), ())] (.ok ⟨mG, ((ofN (aa.nat z5 * aa.nat a0.snd.snd.snd.snd * z4 % z1), ()), ())⟩))))
theorem ajh (x : E7) (Q : iw.Y → Prop) : wpf te C5 ay 1000 Try.f92 (iw.inp.inj x).tm (iw.inp.inj x).hp (fnK iw K5 Q) (fun _ _ => False) = (rK (x.1.1) (x.1.2.1) (x.1.2.2.1)).wpR Q := by kernel_rfl
theorem Vw (pre : E7 → Bool) (F : E7 → OT iw.Y) (hF : ∀ (x : E7) oy, pre x = true → (F x).run = some oy → (rK (x.1.1) (x.1.2.1) (x.1.2.2.1)).run = some oy) : ab Try.prog 92 (iw.aK pre F) :=
  aE au xk Qc (f := 92) (fn := Try.f92) (c := al Try.f92) (by kernel_rfl) (by kernel_rfl) (by kernel_rfl) (S := iw) (k := 0) (by kernel_rfl) (fun R hR => af) (n := 1000) (sel := K5) (fun v o h => by cases h; rfl) (pre := pre) (F := F) (T := fun x => rK (x.1.1) (x.1.2.1) (x.1.2.2.1)) (fun x Q => ajh x Q) hF
theorem aak {p A B r s : Nat} (h : r * s * r % p = 1 % p) : A * B * r % p * s * r % p = A * B % p := by
  have e : A * B * r * (s * r) = A * B * (r * s * r) := by
    rw [Nat.mul_assoc (A * B) r (s * r), Nat.mul_assoc r s r]
  rw [Nat.mul_assoc, Nat.mul_mod, Nat.mod_mod, ← Nat.mul_mod, e, Nat.mul_mod, h, ← Nat.mul_mod, Nat.mul_one]
theorem aeO {n : IJ} (h : ir n = true) : adF n * n.2.2.2.2.nat * adF n % n.1.nat = 1 % n.1.nat := by
  rcases gj h with rfl | rfl <;> decide +kernel
theorem alb : ir (bM 2) = true := by decide +kernel
theorem ala : ir (bM 3) = true := by decide +kernel
theorem aaT {n : IJ} (h : ir n = true) : nh n = true := by
  rcases gj h with rfl | rfl <;> decide +kernel
theorem xT {n : IJ} {a b : aa} {m : UInt64} (hn0 : nh n = true) (h1 : n.1 = ⟨m, 0, 0, 0⟩) (h2 : n.2.2.1 = m) (hs : eH m = true) : (rK n a b).run = some ⟨mG, ((aN n.1.nat a b, ()), ())⟩ := by
  have hm := iY hs
  have hb' : m.toNat ≤ 16521217 := by rcases df hs with rfl | rfl <;> decide
  have hn : n.1.nat = m.toNat := by rw [h1]; show m.toNat + _ * (0 + _ * (0 + _ * 0)) = _; omega
  have hz : (!(n.2.2.1 == 0)) = true := by
    rw [h2]
    rcases df hs with rfl | rfl <;> rfl
  have ha := Nat.mod_lt a.nat hm
  have hb := Nat.mod_lt b.nat hm
  have hab : a.nat % m.toNat * (b.nat % m.toNat) < 18446744073709551616 := by
    have : a.nat % m.toNat * (b.nat % m.toNat) ≤ 16521217 * 16521217 := Nat.mul_le_mul (by omega) (by omega)
    omega
  have e : UInt64.ofNat (a.nat % m.toNat) * UInt64.ofNat (b.nat % m.toNat) % m = UInt64.ofNat (a.nat * b.nat % m.toNat) := by
    have hlt := Nat.mod_lt (a.nat * b.nat) hm
    rw [← UInt64.toNat_inj, UInt64.toNat_mod, UInt64.toNat_mul, UInt64.toNat_ofNat', UInt64.toNat_ofNat', UInt64.toNat_ofNat', Nat.mod_eq_of_lt (a := a.nat % m.toNat) (by omega), Nat.mod_eq_of_lt (a := b.nat % m.toNat) (by omega),
      Nat.mod_eq_of_lt (a := a.nat % m.toNat * (b.nat % m.toNat)) (by omega), Nat.mod_eq_of_lt (a := a.nat * b.nat % m.toNat) (by omega), ← Nat.mul_mod]
  have hlt := Nat.mod_lt (a.nat * b.nat) hm
  unfold rK
  refine (ai ?_).trans ((OT.ao hz).trans ((ai ?_).trans ?_))
  · simp only [List.all_cons, List.all_nil, Bool.and_true, Bool.and_eq_true]
    exact ⟨hn0, hn0⟩
  · simp only [hz, List.all_cons, List.all_nil, Bool.and_true]
  · unfold aN
    rw [hn, nS (n := a.nat * b.nat % m.toNat) (by omega), ← e]
    show some (⟨mG, ((⟨UInt64.ofNat (a.nat % m.toNat) * UInt64.ofNat (b.nat % m.toNat) % n.2.2.1, 0, 0, 0⟩, ()), ())⟩ : iw.Y) = _
    rw [h2]
theorem BK {n : IJ} {a b : aa} (h : ir n = true) (h2 : n.2.2.1 = 0) : (rK n a b).run = some ⟨mG, ((aN n.1.nat a b, ()), ())⟩ := by
  have hn0 := aaT h
  have hp := tt hn0
  have hz : (!(n.2.2.1 == 0)) = false := by rw [h2]; rfl
  have e1 : (ofN (a.nat % n.1.nat)).nat = a.nat % n.1.nat := cv hp
  have e2 : (ofN (b.nat % n.1.nat)).nat = b.nat % n.1.nat := cv hp
  have e3 : (ofN (a.nat % n.1.nat * (b.nat % n.1.nat) * adF n % n.1.nat)).nat = a.nat % n.1.nat * (b.nat % n.1.nat) * adF n % n.1.nat := cv hp
  unfold rK
  refine (ai ?_).trans ((OT.ax hz).trans ((ai ?_).trans ?_))
  · simp only [List.all_cons, List.all_nil, Bool.and_true, Bool.and_eq_true]
    exact ⟨hn0, hn0⟩
  · simp only [List.all_cons, List.all_nil, Bool.and_true, Bool.and_eq_true, oi, h, true_and, e1, e2, e3]
    exact ⟨Nat.ble_eq_true_of_le (Nat.mod_lt _ hp.1), Nat.ble_eq_true_of_le (Nat.mod_lt _ hp.1)⟩
  · simp only [e1, e2, e3, aak (aeO h), aN, ← Nat.mul_mod]
    rfl
def oo (x : E7) : Bool := nh x.1.1
def abd (x : E7) : OT iw.Y := .ok ⟨mG, ((aN x.1.1.1.nat x.1.2.1 x.1.2.2.1, ()), ())⟩
theorem aeY : ab Try.prog 92 (iw.aK oo abd) := Vw _ _ fun x oy hp ho => by
  rw [← ho]
  clear ho
  obtain ⟨⟨n, a, b, ⟨⟩⟩, ⟨⟩⟩ := x
  have hp' : nh n = true := hp
  rcases rp hp' with rfl | rfl | rfl | rfl
  · exact xT hp' (m := 16513537) rfl rfl rfl
  · exact xT hp' (m := 16521217) rfl rfl rfl
  · exact BK alb rfl
  · exact BK ala rfl
def ww : cK := (iw.aK oo abd)
theorem O1 : ab Try.prog 92 ww := aeY
theorem O0 : aL ww := aD
def De : Env := aA 92 ww C5
theorem xm : aW Try.prog De := ag O1 xk
theorem yB : av De := ac O0 yw
theorem Qe : bm Try.prog te De := aP follows au xm yB
def om : ap := ⟨[.val false .int, .val true .elem, .val true .elem], [], true, 0, false⟩
abbrev Vv : Type := ((Int) × (aa) × (aa) × Unit) × (Unit)
def BJ : az := ⟨[.val true .elem], [], false⟩
def SD : SV → Option az := fun _ => some BJ
def abc (a0 : Int) (a1 : aa) (a2 : aa) : OT om.Y :=
  let z0 : aa × Int × UInt64 × UInt64 × aa := bM (Int.toNat a0)
  (.br (aj a0)
  (gd [oo ((z0, a1, a2, ()), ())] (.ok ⟨BJ, ((aN (aa.nat z0.fst) a1 a2, ()), ())⟩))
  (.ok ⟨BJ, (({ w0 := 0, w1 := 0, w2 := 0, w3 := 0 }, ()), ())⟩))
theorem alm (x : Vv) (Q : om.Y → Prop) : wpf te De ay 1000 Try.f60 (om.inp.inj x).tm (om.inp.inj x).hp (fnK om SD Q) (fun _ _ => False) = (abc (x.1.1) (x.1.2.1) (x.1.2.2.1)).wpR Q := by kernel_rfl
theorem abb (pre : Vv → Bool) (F : Vv → OT om.Y) (hF : ∀ (x : Vv) oy, pre x = true → (F x).run = some oy → (abc (x.1.1) (x.1.2.1) (x.1.2.2.1)).run = some oy) : ab Try.prog 60 (om.aK pre F) :=
  aE au xm Qe (f := 60) (fn := Try.f60) (c := al Try.f60) (by kernel_rfl) (by kernel_rfl) (by kernel_rfl) (S := om) (k := 0) (by kernel_rfl) (fun R hR => af) (n := 1000) (sel := SD) (fun v o h => by cases h; rfl) (pre := pre) (F := F) (T := fun x => abc (x.1.1) (x.1.2.1) (x.1.2.2.1)) (fun x Q => alm x Q) hF
def SF (_ : Vv) : Bool := true
def agb (x : Vv) : OT om.Y := .br (aj x.1.1) (.ok ⟨BJ, ((aN (pS x.1.1) x.1.2.1 x.1.2.2.1, ()), ())⟩) (.ok ⟨BJ, ((⟨0, 0, 0, 0⟩, ()), ())⟩)
theorem ajg : ab Try.prog 60 (om.aK SF agb) := abb _ _ fun x oy hp ho => by
  rw [← ho]
  clear ho
  obtain ⟨⟨s, a, b, ⟨⟩⟩, ⟨⟩⟩ := x
  cases hs : aj s
  · exact (OT.ax hs).trans (OT.ax (b := aj s) hs).symm
  · refine (OT.ao hs).trans ((ai ?_).trans (OT.ao (b := aj s) hs).symm)
    simp only [List.all_cons, List.all_nil, Bool.and_true]
    exact py hs
def BI : cK := (om.aK SF agb)
theorem Vu : ab Try.prog 60 BI := ajg
theorem Vt : aL BI := aD
def Mt : Env := aA 60 BI De
theorem Dc : aW Try.prog Mt := ag Vu xm
theorem Dd : av Mt := ac Vt yB
theorem WC : bm Try.prog te Mt := aP follows au Dc Dd
def jK : ap := ⟨[.val true .elem], [], true, 0, false⟩
abbrev Fb : Type := ((aa) × Unit) × (Unit)
def HC : az := ⟨[.val true .elem], [], false⟩
def Lb : SV → Option az := fun _ => some HC
def O5 (a0 : aa) : OT jK.Y :=
  (.ok ⟨HC, (({ w0 := bq a0.w0 (1 : Int) ||| cu a0.w1 (63 : Int), w1 := bq a0.w1 (1 : Int) ||| cu a0.w2 (63 : Int), w2 := bq a0.w2 (1 : Int) ||| cu a0.w3 (63 : Int), w3 := bq a0.w3 (1 : Int) }, ()), ())⟩)
theorem ajl (x : Fb) (Q : jK.Y → Prop) : wpf te Mt ay 1000 Try.f102 (jK.inp.inj x).tm (jK.inp.inj x).hp (fnK jK Lb Q) (fun _ _ => False) = (O5 (x.1.1)).wpR Q := by kernel_rfl
theorem VH (pre : Fb → Bool) (F : Fb → OT jK.Y) (hF : ∀ (x : Fb) oy, pre x = true → (F x).run = some oy → (O5 (x.1.1)).run = some oy) : ab Try.prog 102 (jK.aK pre F) :=
  aE au Dc WC (f := 102) (fn := Try.f102) (c := al Try.f102) (by kernel_rfl) (by kernel_rfl) (by kernel_rfl) (S := jK) (k := 0) (by kernel_rfl) (fun R hR => af) (n := 1000) (sel := Lb) (fun v o h => by cases h; rfl) (pre := pre) (F := F) (T := fun x => O5 (x.1.1)) (fun x Q => ajl x Q) hF
theorem Bn (x y : UInt64) : (bq x 1 ||| cu y 63).toNat = x.toNat / 2 + 9223372036854775808 * (y.toNat % 2) := by
  have hx := x.toNat_lt
  have e1 : (bq x 1).toNat = x.toNat / 2 := fI x 1 (by omega)
  have e2 : (cu y 63).toNat = 9223372036854775808 * (y.toNat % 2) := by
    have := kJ y 63 (by omega)
    have e : (cu y 63).toNat = y.toNat * 2 ^ 63 % 2 ^ 64 := this
    rw [e]
    omega
  rw [UInt64.toNat_or, e1, e2, Nat.or_comm]
  have := Nat.two_pow_add_eq_or_of_lt (i := 63) (b := x.toNat / 2) (by omega) (y.toNat % 2)
  rw [Nat.add_comm]
  exact this.symm
theorem Bo (x N : Nat) : (x + 18446744073709551616 * N) / 2 = (x / 2 + 9223372036854775808 * (N % 2)) + 18446744073709551616 * (N / 2) := by
  omega
theorem OG (y N : Nat) : (y + 18446744073709551616 * N) % 2 = y % 2 := by
  omega
def eZ (a : aa) : aa := ofN (a.nat / 2)
theorem So (a : aa) : eZ a = ⟨bq a.w0 1 ||| cu a.w1 63, bq a.w1 1 ||| cu a.w2 63, bq a.w2 1 ||| cu a.w3 63, bq a.w3 1⟩ := by
  refine ZV (k := 0) ?_
  rw [Bn, Bn, Bn, Nat.mul_zero, Nat.add_zero]
  unfold Sx.aa.nat
  have e3 : (bq a.w3 1).toNat = a.w3.toNat / 2 := fI a.w3 1 (by omega)
  rw [Bo, OG, Bo, OG, Bo, e3]
def Lc (_ : Fb) : Bool := true
def O6 (x : Fb) : OT jK.Y := .ok ⟨HC, ((eZ x.1.1, ()), ())⟩
theorem aeZ : ab Try.prog 102 (jK.aK Lc O6) := VH _ _ fun x oy hp ho => by
  rw [← ho]
  clear ho
  obtain ⟨⟨a, ⟨⟩⟩, ⟨⟩⟩ := x
  simp only [O6, So]
  rfl
def wx : cK := (jK.aK Lc O6)
theorem O4 : ab Try.prog 102 wx := aeZ
theorem O3 : aL wx := aD
def xo : Env := aA 102 wx Mt
theorem qq : aW Try.prog xo := ag O4 Dc
theorem yC : av xo := ac O3 Dd
theorem Dj : bm Try.prog te xo := aP follows au qq yC
def dU : ap := ⟨[.val true .elem, .val false .int], [], true, 0, false⟩
abbrev pU : Type := ((aa) × (Int) × Unit) × (Unit)
def lD : Shape := ⟨12, [(2, .ptr 0 0 0), (4, .ptr 1 0 0), (5, .val false .int), (6, .val false .int)], [(0, .row .u64), (1, .row .u64)], 0, true⟩
abbrev bG : Type := ((Unit) × (Unit) × (Int) × (Int) × Unit) × ((List (UInt64)) × (List (UInt64)) × Unit)
def km : Shape := ⟨12, [(2, .ptr 0 0 0), (4, .ptr 1 0 0)], [(0, .row .u64), (1, .row .u64)], 0, true⟩
abbrev gl : Type := ((Unit) × (Unit) × Unit) × ((List (UInt64)) × (List (UInt64)) × Unit)
def E9 : SE → Option Shape := ku [(0, km)] none
def VG (a5 : Int) (a6 : Int) (c0 : List (UInt64)) (c1 : List (UInt64)) : OT (Sum bG aQ) :=
  let z0 : Nat := List.length c0
  let z1 : aa := eZ { w0 := List.getD c0 0 0, w1 := List.getD c0 1 0, w2 := List.getD c0 2 0, w3 := List.getD c0 3 0 }
  (.br (decide (a6 < a5))
  (gd [decide (4 ≤ z0), decide ((4 / 1 : Nat) + 0 ≤ z0), inR (a6 + (1 : Int))] (.ok (.inl (((), ((), (a5, (a6 + (1 : Int), ())))), (List.set (List.set (List.set (List.set c0 0 z1.w0) 1 z1.w1) 2 z1.w2) 3 z1.w3, (c1, ()))))))
  (.ok (.inr ⟨(.exit 0, km), (((), ((), ())), (c0, (c1, ())))⟩)))
def lF (s : bG) : OT (Sum bG aQ) := VG (s.1.2.2.1) (s.1.2.2.2.1) (s.2.1) (s.2.2.1)
theorem VD (s : bG) (Q : Sum bG aQ → Prop) : wps te xo ay 1000 (bJ (al Try.f99) 0) (lD.inj s) (cW lD E9 (Q : Sum lD.T aQ → Prop)) = (lF s).wpR Q := by kernel_rfl
def pT (g0_0 : bG → gl) (s : bG) : OT aQ := (.ok ⟨(.exit 0, km), g0_0 s⟩)
def lE : az := ⟨[.val true .elem], [], false⟩
def BQ : SV → Option az := fun _ => some lE
def BT (ok0 : bG → Bool) (g0_0 : bG → gl) (a0 : aa) (a1 : Int) : OT dU.Y :=
  let z0 : (PUnit × PUnit × Int × Int × PUnit) × List UInt64 × List UInt64 × PUnit := (((), (), a1, (0 : Int), ()), [a0.w0, a0.w1, a0.w2, a0.w3], [(0 : UInt64), (0 : UInt64), (0 : UInt64), (0 : UInt64)], ())
  let z1 := (g0_0 z0).snd
  let z2 := z1.fst
  let z3 := z1.snd.fst
  let z4 : List UInt64 := lay z3 z2 4 (0 : UInt64)
  (gd [ok0 z0, decide (4 ≤ List.length z2), decide ((4 / 1 : Nat) + 0 ≤ List.length z3), decide (4 ≤ List.length z4)] (.ok ⟨lE, (({ w0 := List.getD z4 0 0, w1 := List.getD z4 1 0, w2 := List.getD z4 2 0, w3 := List.getD z4 3 0 }, ()), ())⟩))
theorem abi (ok0 : bG → Bool) (g0_0 : bG → gl) (x : pU) (Q : dU.Y → Prop) : wpf te xo (bx 0 (dw lD 0 ok0 (pT g0_0)) ay) 1000 Try.f99 (dU.inp.inj x).tm (dU.inp.inj x).hp (fnK dU BQ Q) (fun _ _ => False) = (BT ok0 g0_0 (x.1.1) (x.1.2.1)).wpR Q := by kernel_rfl
theorem K9 (ok0 : bG → Bool) (g0_0 : bG → gl) (h0 : ∀ s : bG, ok0 s = true → ∃ m e, aq (lF) m s = some e ∧ (pT g0_0 s).run = some e) (pre : pU → Bool) (F : pU → OT dU.Y) (hF : ∀ (x : pU) oy, pre x = true → (F x).run = some oy → (BT ok0 g0_0 (x.1.1) (x.1.2.1)).run = some oy) : ab Try.prog 99 (dU.aK pre F) :=
  aE au qq Dj (f := 99) (fn := Try.f99) (c := al Try.f99) (by kernel_rfl) (by kernel_rfl) (by kernel_rfl) (S := dU) (k := 0) (by kernel_rfl) (fun R hR => (aI (c := (al Try.f99)) (by kernel_rfl) (id := 0) (by kernel_rfl) (bA au qq Dj (sh := lD) hR (xs := E9) (aH (by kernel_rfl) (by kernel_rfl) hR) aX af (n := 1000) (T := lF) (fun s Q => VD s Q) (ok := ok0) (f := pT g0_0) h0) af)) (n := 1000) (sel := BQ) (fun v o h => by cases h; rfl) (pre := pre) (F := F) (T := fun x => BT ok0 g0_0 (x.1.1) (x.1.2.1)) (fun x Q => abi ok0 g0_0 x Q) hF
def eI (a : aa) (n : Nat) : aa := ofN (a.nat / 2 ^ n)
theorem rH (a : aa) : ∀ n, upto (fun _ e => eZ e) a n = eI a n
  | 0 => by
    show a = ofN (a.nat / 2 ^ 0)
    rw [Nat.pow_zero, Nat.div_one, px]
  | n + 1 => by
    show eZ (upto (fun _ e => eZ e) a n) = _
    rw [rH a n]
    unfold eZ eI
    have := fU a
    have h2 : a.nat / 2 ^ n ≤ a.nat := Nat.div_le_self _ _
    rw [gG (by omega), Nat.div_div_eq_div_mul, ← Nat.pow_succ]
def BS (s : bG) : Bool := decide (s.1.2.2.2.1 = 0 ∧ 0 ≤ s.1.2.2.1 ∧ s.1.2.2.1 ≤ 1000000 ∧ s.2.1.length = 4)
def Fa (s : bG) : gl := (((), (), ()), (lst (eI (elemOf s.2.1) s.1.2.2.1.toNat), s.2.2.1, ()))
theorem VF : ∀ s : bG, BS s = true → ∃ m e, aq lF m s = some e ∧ (pT Fa s).run = some e := by
  rintro ⟨⟨⟨⟩, ⟨⟩, k, i, ⟨⟩⟩, ⟨l, o, ⟨⟩⟩⟩ h
  have h' := of_decide_eq_true h
  dsimp only at h'
  obtain ⟨rfl, h0, h1, hl⟩ := h'
  obtain ⟨a, rfl⟩ : ∃ a, l = lst a := ⟨elemOf l, (aZ hl).symm⟩
  have := (bI (T := lF) (fun i a => ((((), (), k, (i : Int), ()), (lst a, o, ())) : bG)) (fun _ e => eZ e)
    (fun a => (⟨(.exit 0, km), (((), (), ()), (lst a, o, ()))⟩ : aQ)) k.toNat a (fun _ _ => True) trivial (fun i a hi _ => ⟨?_, trivial⟩) (fun a _ => ?_)).1
  · rw [rH] at this
    obtain ⟨m, hm⟩ := this
    exact ⟨m, _, hm, rfl⟩
  · refine (OT.ao (decide_eq_true (by dsimp only; omega))).trans ((ai ?_).trans rfl)
    simp only [List.all_cons, List.all_nil, Bool.and_true, Bool.and_eq_true]
    exact ⟨rfl, rfl, bC (by omega)⟩
  · exact OT.ax (decide_eq_false (by dsimp only; omega))
def BR (x : pU) : Bool := decide (0 ≤ x.1.2.1 ∧ x.1.2.1 ≤ 1000000)
def La (x : pU) : OT dU.Y := .ok ⟨lE, ((eI x.1.1 x.1.2.1.toNat, ()), ())⟩
theorem VE : ab Try.prog 99 (dU.aK BR La) := K9 BS Fa VF _ _ fun x oy hp ho => by
  rw [← ho]
  clear ho
  obtain ⟨⟨a, k, ⟨⟩⟩, ⟨⟩⟩ := x
  have hp' : 0 ≤ k ∧ k ≤ 1000000 := of_decide_eq_true hp
  refine (ai ?_).trans ?_
  · simp only [List.all_cons, List.all_nil, Bool.and_true, Bool.and_eq_true]
    exact ⟨decide_eq_true ⟨rfl, hp'.1, hp'.2, rfl⟩, rfl, rfl, rfl⟩
  · show some (⟨lE, ((elemOf (lay [0, 0, 0, 0] (lst (eI a k.toNat)) 4 0), ()), ())⟩ : dU.Y) = some ⟨lE, ((eI a k.toNat, ()), ())⟩
    rw [aj1 _ _ rfl rfl]
    rfl
def ov : cK := (dU.aK BR La)
theorem HB : ab Try.prog 99 ov := VE
theorem HA : aL ov := aD
def lS : Env := aA 99 ov xo
theorem ks : aW Try.prog lS := ag HB qq
theorem qN : av lS := ac HA yC
theorem uM : bm Try.prog te lS := aP follows au ks qN
end Go.Proofs.Ytkedomfjjahjnaa

namespace Go.Proofs.Ytkedomfjjahjnaa
open Sx Go
def cj (k : aa) : Bool := (k.w0 == 0 && (k.w1 == 0 && (k.w2 == 0 && (k.w3 == 0 && true))))
def alX (k : aa) : Bool := (k.w0 &&& 1 == 1)
theorem e8 (k : aa) : cj k = Nat.beq k.nat 0 := by
  unfold cj Sx.aa.nat
  have e : ∀ x : UInt64, (x == 0) = decide (x.toNat = 0) := fun x => by
    by_cases h : x = 0
    · subst h; rfl
    · have h' : ¬ x.toNat = 0 := fun h' => h (UInt64.toNat_inj.1 h')
      rw [decide_eq_false h']
      simpa using h
  rw [e, e, e, e]
  generalize k.w0.toNat = a
  generalize k.w1.toNat = b
  generalize k.w2.toNat = c
  generalize k.w3.toNat = d
  by_cases h : a = 0 ∧ b = 0 ∧ c = 0 ∧ d = 0
  · obtain ⟨rfl, rfl, rfl, rfl⟩ := h
    rfl
  · have h1 : ¬ (a + 18446744073709551616 * (b + 18446744073709551616 * (c + 18446744073709551616 * d)) = 0) := fun h1 => h (by omega)
    have h2 : Nat.beq (a + 18446744073709551616 * (b + 18446744073709551616 * (c + 18446744073709551616 * d))) 0 = false := by
      cases hb : Nat.beq (a + 18446744073709551616 * (b + 18446744073709551616 * (c + 18446744073709551616 * d))) 0
      · rfl
      · exact absurd (Nat.eq_of_beq_eq_true hb) h1
    rw [h2]
    by_cases ha : a = 0
    · by_cases hb : b = 0
      · by_cases hc : c = 0
        · have hd : ¬ d = 0 := fun hd => h ⟨ha, hb, hc, hd⟩
          simp [hd]
        · simp [hc]
      · simp [hb]
    · simp [ha]
theorem aek (k : aa) : alX k = Nat.beq (k.nat % 2) 1 := by
  have e : (k.w0 &&& 1).toNat = k.w0.toNat % 2 := by
    rw [UInt64.toNat_and]
    exact Nat.and_two_pow_sub_one_eq_mod k.w0.toNat 1
  have e2 : k.nat % 2 = k.w0.toNat % 2 := by
    unfold Sx.aa.nat
    rw [OG]
  rw [e2, ← e]
  unfold alX
  by_cases h : k.w0 &&& 1 = 1
  · rw [h]; rfl
  · have h' : ¬ (k.w0 &&& 1).toNat = 1 := fun h' => h (UInt64.toNat_inj.1 h')
    have h2 : Nat.beq (k.w0 &&& 1).toNat 1 = false := by
      cases hb : Nat.beq (k.w0 &&& 1).toNat 1
      · rfl
      · exact absurd (Nat.eq_of_beq_eq_true hb) h'
    rw [h2]
    simpa using h
theorem KP (k : aa) : (eZ k).nat = k.nat / 2 := by
  have := fU k
  exact gG (by omega)
def aef (p : Nat) : Nat → aa → aa → aa → aa
  | 0, o, _, _ => o
  | n + 1, o, x, k => cond (cj k) o (aef p n (cond (alX k) (aN p o x) o) (aN p x x) (eZ k))
def afS (p : Nat) : Nat → Nat → Nat → Nat → Nat
  | 0, o, _, _ => o
  | n + 1, o, x, k => cond (Nat.beq k 0) o (afS p n (cond (Nat.beq (k % 2) 1) (o * x % p) o) (x * x % p) (k / 2))
theorem ZL {p : Nat} (hp : 0 < p ∧ p < 57896044618658097711785492504343953926634992332820282019728792003956564819968) : ∀ (n : Nat) (o x k : aa), aef p n o x k = ofN (afS p n o.nat x.nat k.nat)
  | 0, o, x, k => (px o).symm
  | n + 1, o, x, k => by
    have e : ∀ a b : aa, (aN p a b).nat = a.nat * b.nat % p := fun a b => cv hp
    simp only [aef, afS, e8, aek]
    cases Nat.beq k.nat 0
    · simp only [cond_false]
      rw [ZL hp n, e, KP]
      cases Nat.beq (k.nat % 2) 1
      · rfl
      · simp only [cond_true, e]
    · simp only [cond_true]
      exact (px o).symm
def u6 (p : Nat) (a k : aa) : aa := cond (Nat.beq p 0) ⟨0, 0, 0, 0⟩ (ofN (afS p 256 1 (a.nat % p) k.nat))
theorem HH {p : Nat} (hp : 0 < p) (a k : aa) : u6 p a k = ofN (afS p 256 1 (a.nat % p) k.nat) := by
  unfold u6
  cases p with
  | zero => exact absurd hp (Nat.lt_irrefl _)
  | succ p => rfl
end Go.Proofs.Ytkedomfjjahjnaa

namespace Go.Proofs.Ytkedomfjjahjnaa
open Sx Go
set_option maxRecDepth 100000
def ow : ap := ⟨[.val false .int, .val true .elem, .val true .elem], [], true, 0, false⟩
abbrev VK : Type := ((Int) × (aa) × (aa) × Unit) × (Unit)
def BV : Shape := ⟨40, [(4, .ptr 0 0 0), (5, .ptr 1 0 0), (6, .ptr 2 0 0), (7, .ptr 3 0 0), (9, .ptr 4 0 0)], [(0, .row .u64), (1, .row .u64), (2, .row .u64), (3, .cells [.val false .u64, .val false .u64, .val false .u64, .val false .u64, .val false .int, .val false .u64, .val false .u64, .val false .u64, .val false .u64, .val false .u64, .val false .u64]), (4, .row .u64)], 0, true⟩
abbrev cT : Type := ((Unit) × (Unit) × (Unit) × (Unit) × (Unit) × Unit) × ((List (UInt64)) × (List (UInt64)) × (List (UInt64)) × ((UInt64) × (UInt64) × (UInt64) × (UInt64) × (Int) × (UInt64) × (UInt64) × (UInt64) × (UInt64) × (UInt64) × (UInt64) × Unit) × (List (UInt64)) × Unit)
def tT : Shape := ⟨40, [(6, .ptr 0 0 0), (9, .ptr 1 0 0)], [(0, .row .u64), (1, .row .u64)], 0, true⟩
abbrev lG : Type := ((Unit) × (Unit) × Unit) × ((List (UInt64)) × (List (UInt64)) × Unit)
def abj : SE → Option Shape := ku [(0, tT)] none
def ajp (c0 : List (UInt64)) (c1 : List (UInt64)) (c2 : List (UInt64)) (c3_0 : UInt64) (c3_1 : UInt64) (c3_2 : UInt64) (c3_3 : UInt64) (c3_4 : Int) (c3_5 : UInt64) (c3_6 : UInt64) (c3_7 : UInt64) (c3_8 : UInt64) (c3_9 : UInt64) (c3_10 : UInt64) (c4 : List (UInt64)) : OT (Sum cT aQ) :=
  let z0 : Nat := List.length c1
  let z1 : Bool := decide (4 ≤ z0)
  let z2 : UInt64 := List.getD c1 0 0
  let z3 : UInt64 := List.getD c1 1 0
  let z4 : UInt64 := List.getD c1 2 0
  let z5 : UInt64 := List.getD c1 3 0
  let z6 : Nat := List.length c4
  let z7 : Nat := List.length c0
  let z8 : Bool := decide (4 ≤ z7)
  let z9 : aa := { w0 := c3_0, w1 := c3_1, w2 := c3_2, w3 := c3_3 }
  let z10 : aa × Int × UInt64 × UInt64 × aa := (z9, c3_4, c3_5, c3_6, { w0 := c3_7, w1 := c3_8, w2 := c3_9, w3 := c3_10 })
  let z11 : aa := { w0 := List.getD c4 0 0, w1 := List.getD c4 1 0, w2 := List.getD c4 2 0, w3 := List.getD c4 3 0 }
  let z12 : aa := { w0 := List.getD c0 0 0, w1 := List.getD c0 1 0, w2 := List.getD c0 2 0, w3 := List.getD c0 3 0 }
  let z13 : aa × PUnit := (z12, ())
  let z14 : Bool := oo ((z10, z12, z13), ())
  let z15 : Bool := decide ((4 / 1 : Nat) + 0 ≤ z7)
  let z16 : Bool := decide ((4 / 1 : Nat) + 0 ≤ z0)
  let z17 : Nat := aa.nat z9
  let z18 : aa := aN z17 z12 z12
  let z19 : List UInt64 := List.set (List.set (List.set (List.set c0 0 z18.w0) 1 z18.w1) 2 z18.w2) 3 z18.w3
  let z20 : aa := eZ { w0 := z2, w1 := z3, w2 := z4, w3 := z5 }
  let z21 : List UInt64 := List.set (List.set (List.set (List.set c1 0 z20.w0) 1 z20.w1) 2 z20.w2) 3 z20.w3
  let z22 : aa := aN z17 z11 z12
  (gd [z1] (.br (!(z2 == (0 : UInt64) && (z3 == (0 : UInt64) && (z4 == (0 : UInt64) && (z5 == (0 : UInt64) && true)))))
  (gd [decide (0 < z0)] (.br (z2 &&& (1 : UInt64) == (1 : UInt64))
    (gd [decide (4 ≤ z6), z8, oo ((z10, z11, z13), ()), decide ((4 / 1 : Nat) + 0 ≤ z6), z8, z8, z14, z15, z1, z16] (.ok (.inl (((), ((), ((), ((), ((), ()))))), (z19, (z21, (c2, ((c3_0, (c3_1, (c3_2, (c3_3, (c3_4, (c3_5, (c3_6, (c3_7, (c3_8, (c3_9, (c3_10, ()))))))))))), (List.set (List.set (List.set (List.set c4 0 z22.w0) 1 z22.w1) 2 z22.w2) 3 z22.w3, ())))))))))
    (gd [z8, z8, z14, z15, z1, z16] (.ok (.inl (((), ((), ((), ((), ((), ()))))), (z19, (z21, (c2, ((c3_0, (c3_1, (c3_2, (c3_3, (c3_4, (c3_5, (c3_6, (c3_7, (c3_8, (c3_9, (c3_10, ()))))))))))), (c4, ())))))))))))
  (.ok (.inr ⟨(.exit 0, tT), (((), ((), ())), (c2, (c4, ())))⟩))))
def BX (s : cT) : OT (Sum cT aQ) := ajp (s.2.1) (s.2.2.1) (s.2.2.2.1) (s.2.2.2.2.1.1) (s.2.2.2.2.1.2.1) (s.2.2.2.2.1.2.2.1) (s.2.2.2.2.1.2.2.2.1) (s.2.2.2.2.1.2.2.2.2.1) (s.2.2.2.2.1.2.2.2.2.2.1) (s.2.2.2.2.1.2.2.2.2.2.2.1) (s.2.2.2.2.1.2.2.2.2.2.2.2.1) (s.2.2.2.2.1.2.2.2.2.2.2.2.2.1) (s.2.2.2.2.1.2.2.2.2.2.2.2.2.2.1) (s.2.2.2.2.1.2.2.2.2.2.2.2.2.2.2.1) (s.2.2.2.2.2.1)
theorem ajm (s : cT) (Q : Sum cT aQ → Prop) : wps te lS ay 1000 (bJ (al Try.f100) 0) (BV.inj s) (cW BV abj (Q : Sum BV.T aQ → Prop)) = (BX s).wpR Q := by kernel_rfl
def HE (g0_0 : cT → lG) (s : cT) : OT aQ := (.ok ⟨(.exit 0, tT), g0_0 s⟩)
def BW : az := ⟨[.val true .elem], [], false⟩
def SM : SV → Option az := fun _ => some BW
def abn (ok0 : cT → Bool) (g0_0 : cT → lG) (a0 : Int) (a1 : aa) (a2 : aa) : OT ow.Y :=
  let z0 : aa × Int × UInt64 × UInt64 × aa := bM (Int.toNat a0)
  let z1 := z0.fst
  let z2 : aa := ofN (aa.nat a1 % aa.nat z1)
  let z3 := z0.snd
  let z4 := z3.snd
  let z5 := z4.snd
  let z6 := z5.snd
  let z7 : (PUnit × PUnit × PUnit × PUnit × PUnit × PUnit) × List UInt64 × List UInt64 × List UInt64 × (UInt64 × UInt64 × UInt64 × UInt64 × Int × UInt64 × UInt64 × UInt64 × UInt64 × UInt64 × UInt64 × PUnit) × List UInt64 × PUnit := (((), (), (), (), (), ()), [z2.w0, z2.w1, z2.w2, z2.w3], [a2.w0, a2.w1, a2.w2, a2.w3], [(0 : UInt64), (0 : UInt64), (0 : UInt64), (0 : UInt64)], (z1.w0, z1.w1, z1.w2, z1.w3, z3.fst, z4.fst, z5.fst, z6.w0, z6.w1, z6.w2, z6.w3, ()), [(1 : UInt64), (0 : UInt64), (0 : UInt64), (0 : UInt64)], ())
  let z8 := (g0_0 z7).snd
  let z9 := z8.snd.fst
  let z10 := z8.fst
  let z11 : List UInt64 := lay z10 z9 4 (0 : UInt64)
  (.br (aj a0)
  (gd [gk ((z0, a1, ()), ()), ok0 z7, decide (4 ≤ List.length z9), decide ((4 / 1 : Nat) + 0 ≤ List.length z10), decide (4 ≤ List.length z11)] (.ok ⟨BW, (({ w0 := List.getD z11 0 0, w1 := List.getD z11 1 0, w2 := List.getD z11 2 0, w3 := List.getD z11 3 0 }, ()), ())⟩))
  (.ok ⟨BW, (({ w0 := 0, w1 := 0, w2 := 0, w3 := 0 }, ()), ())⟩))
theorem alp (ok0 : cT → Bool) (g0_0 : cT → lG) (x : VK) (Q : ow.Y → Prop) : wpf te lS (bx 0 (dw BV 0 ok0 (HE g0_0)) ay) 1000 Try.f100 (ow.inp.inj x).tm (ow.inp.inj x).hp (fnK ow SM Q) (fun _ _ => False) = (abn ok0 g0_0 (x.1.1) (x.1.2.1) (x.1.2.2.1)).wpR Q := by kernel_rfl
theorem abk (ok0 : cT → Bool) (g0_0 : cT → lG) (h0 : ∀ s : cT, ok0 s = true → ∃ m e, aq (BX) m s = some e ∧ (HE g0_0 s).run = some e) (pre : VK → Bool) (F : VK → OT ow.Y) (hF : ∀ (x : VK) oy, pre x = true → (F x).run = some oy → (abn ok0 g0_0 (x.1.1) (x.1.2.1) (x.1.2.2.1)).run = some oy) : ab Try.prog 100 (ow.aK pre F) :=
  aE au ks uM (f := 100) (fn := Try.f100) (c := al Try.f100) (by kernel_rfl) (by kernel_rfl) (by kernel_rfl) (S := ow) (k := 0) (by kernel_rfl) (fun R hR => (aI (c := (al Try.f100)) (by kernel_rfl) (id := 0) (by kernel_rfl) (bA au ks uM (sh := BV) hR (xs := abj) (aH (by kernel_rfl) (by kernel_rfl) hR) aX af (n := 1000) (T := BX) (fun s Q => ajm s Q) (ok := ok0) (f := HE g0_0) h0) af)) (n := 1000) (sel := SM) (fun v o h => by cases h; rfl) (pre := pre) (F := F) (T := fun x => abn ok0 g0_0 (x.1.1) (x.1.2.1) (x.1.2.2.1)) (fun x Q => alp ok0 g0_0 x Q) hF
theorem abl {x0 x1 x2 x3 x5 x6 x7 x8 x9 x10 : UInt64} {x4 : Int} {c2 : List UInt64} (hn : nh (⟨x0, x1, x2, x3⟩, x4, x5, x6, ⟨x7, x8, x9, x10⟩) = true) : ∀ (n : Nat) (o x k : aa), k.nat < 2 ^ n →
    ∃ m, aq BX m (((), (), (), (), (), ()), (lst x, lst k, c2, (x0, x1, x2, x3, x4, x5, x6, x7, x8, x9, x10, ()), lst o, ())) = some ⟨(.exit 0, tT), (((), (), ()), (c2, lst (aef (aa.mk x0 x1 x2 x3).nat n o x k), ()))⟩ := by
  intro n
  induction n with
  | zero =>
    intro o x k hk
    have hz : (!cj k) = false := by
      rw [e8, show k.nat = 0 by omega]
      rfl
    exact ⟨1, aT ((ai rfl).trans (OT.ax hz))⟩
  | succ n ih =>
    intro o x k hk
    cases hz : cj k
    · have hk2 : (eZ k).nat < 2 ^ n := by
        rw [KP]
        rw [Nat.pow_succ] at hk
        omega
      have hz' : (!cj k) = true := by rw [hz]; rfl
      cases ho : alX k
      · obtain ⟨m, hm⟩ := ih o (aN (aa.mk x0 x1 x2 x3).nat x x) (eZ k) hk2
        simp only [aef, hz, ho, cond_false]
        refine ⟨m + 1, aO ?_ hm⟩
        refine (ai rfl).trans ((OT.ao hz').trans ((ai rfl).trans ((OT.ax ho).trans ((ai ?_).trans rfl))))
        simp only [List.all_cons, List.all_nil, Bool.and_true, Bool.and_eq_true]
        exact ⟨rfl, rfl, hn, rfl, rfl, rfl⟩
      · obtain ⟨m, hm⟩ := ih (aN (aa.mk x0 x1 x2 x3).nat o x) (aN (aa.mk x0 x1 x2 x3).nat x x) (eZ k) hk2
        simp only [aef, hz, ho, cond_false, cond_true]
        refine ⟨m + 1, aO ?_ hm⟩
        refine (ai rfl).trans ((OT.ao hz').trans ((ai rfl).trans ((OT.ao ho).trans ((ai ?_).trans rfl))))
        simp only [List.all_cons, List.all_nil, Bool.and_true, Bool.and_eq_true]
        exact ⟨rfl, rfl, hn, rfl, rfl, rfl, hn, rfl, rfl, rfl⟩
    · simp only [aef, hz, cond_true]
      have hz' : (!cj k) = false := by rw [hz]; rfl
      exact ⟨1, aT ((ai rfl).trans (OT.ax hz'))⟩
def amw (s : cT) : IJ := (⟨s.2.2.2.2.1.1, s.2.2.2.2.1.2.1, s.2.2.2.2.1.2.2.1, s.2.2.2.2.1.2.2.2.1⟩, s.2.2.2.2.1.2.2.2.2.1, s.2.2.2.2.1.2.2.2.2.2.1, s.2.2.2.2.1.2.2.2.2.2.2.1, ⟨s.2.2.2.2.1.2.2.2.2.2.2.2.1, s.2.2.2.2.1.2.2.2.2.2.2.2.2.1, s.2.2.2.2.1.2.2.2.2.2.2.2.2.2.1, s.2.2.2.2.1.2.2.2.2.2.2.2.2.2.2.1⟩)
def HD (s : cT) : Bool := nh (amw s) && decide (s.2.1.length = 4 ∧ s.2.2.1.length = 4 ∧ s.2.2.2.2.2.1.length = 4)
def abm (s : cT) : lG := (((), (), ()), (s.2.2.2.1, lst (aef (amw s).1.nat 256 (elemOf s.2.2.2.2.2.1) (elemOf s.2.1) (elemOf s.2.2.1)), ()))
theorem ajo : ∀ s : cT, HD s = true → ∃ m e, aq BX m s = some e ∧ (HE abm s).run = some e := by
  rintro ⟨⟨⟨⟩, ⟨⟩, ⟨⟩, ⟨⟩, ⟨⟩, ⟨⟩⟩, ⟨c0, c1, c2, ⟨x0, x1, x2, x3, x4, x5, x6, x7, x8, x9, x10, ⟨⟩⟩, c4, ⟨⟩⟩⟩ h
  simp only [HD, Bool.and_eq_true, decide_eq_true_eq, amw] at h
  obtain ⟨hn, h0, h1, h4⟩ := h
  obtain ⟨x, rfl⟩ : ∃ a, c0 = lst a := ⟨elemOf c0, (aZ h0).symm⟩
  obtain ⟨k, rfl⟩ : ∃ a, c1 = lst a := ⟨elemOf c1, (aZ h1).symm⟩
  obtain ⟨o, rfl⟩ : ∃ a, c4 = lst a := ⟨elemOf c4, (aZ h4).symm⟩
  obtain ⟨m, hm⟩ := abl (c2 := c2) hn 256 o x k (fU k)
  exact ⟨m, _, hm, rfl⟩
def SN (_ : VK) : Bool := true
def age (x : VK) : OT ow.Y := .br (aj x.1.1) (.ok ⟨BW, ((u6 (pS x.1.1) x.1.2.1 x.1.2.2.1, ()), ())⟩) (.ok ⟨BW, ((⟨0, 0, 0, 0⟩, ()), ())⟩)
theorem ae0 {p : Nat} (hp : 0 < p ∧ p < 57896044618658097711785492504343953926634992332820282019728792003956564819968) (a k : aa) : elemOf (lay [0, 0, 0, 0] (lst (aef p 256 ⟨1, 0, 0, 0⟩ (ofN (a.nat % p)) k)) 4 0) = u6 p a k := by
  rw [aj1 _ _ rfl rfl, VV, ZL hp, cv hp, HH hp.1]
  rfl
theorem ajn : ab Try.prog 100 (ow.aK SN age) := abk HD abm ajo _ _ fun x oy hp ho => by
  rw [← ho]
  clear ho
  obtain ⟨⟨s, a, k, ⟨⟩⟩, ⟨⟩⟩ := x
  cases hs : aj s
  · exact (OT.ax hs).trans (OT.ax (b := aj s) hs).symm
  · have hn := py hs
    have hfin := ae0 (fc hs) a k
    have hn2 : nh (bM s.toNat) = true := hn
    refine (OT.ao hs).trans (Eq.trans ?_ (OT.ao (b := aj s) hs).symm)
    simp only [← hfin]
    refine (ai ?_).trans rfl
    simp only [List.all_cons, List.all_nil, Bool.and_true, Bool.and_eq_true]
    refine ⟨hn, ?_, rfl, rfl, rfl⟩
    show (nh _ && decide _) = true
    rw [Bool.and_eq_true]
    exact ⟨hn, decide_eq_true ⟨rfl, rfl, rfl⟩⟩
def BU : cK := (ow.aK SN age)
theorem VJ : ab Try.prog 100 BU := ajn
theorem VI : aL BU := aD
def Mv : Env := aA 100 BU lS
theorem Dk : aW Try.prog Mv := ag VJ ks
theorem Dl : av Mv := ac VI qN
theorem WE : bm Try.prog te Mv := aP follows au Dk Dl
def ou : ap := ⟨[.val false .int, .val true .elem], [], true, 0, false⟩
abbrev VC : Type := ((Int) × (aa) × Unit) × (Unit)
def ot : az := ⟨[.val true .elem, .val false .int], [], false⟩
def SK : SV → Option az := fun _ => some ot
def abh (a0 : Int) (a1 : aa) : OT ou.Y :=
  let z0 : Bool := aj a0
  let z1 : aa × Int × UInt64 × UInt64 × aa := bM (Int.toNat a0)
  let z2 := z1.fst
  let z3 : aa := ofN (aa.nat a1 % aa.nat z2)
  let z4 : aa := { w0 := 0, w1 := 0, w2 := 0, w3 := 0 }
  (.br (z0)
  (gd [gk ((z1, a1, ()), ())] (.br (z3.w0 == (0 : UInt64) && (z3.w1 == (0 : UInt64) && (z3.w2 == (0 : UInt64) && (z3.w3 == (0 : UInt64) && true))))
    (.ok ⟨ot, ((z4, ((10 : Int), ())), ())⟩)
    (.br (z0)
      (.ok ⟨ot, ((u6 (pS a0) a1 (kx z2 { w0 := 2, w1 := 0, w2 := 0, w3 := 0 }).fst, ((0 : Int), ())), ())⟩)
      (.ok ⟨ot, ((z4, ((0 : Int), ())), ())⟩))))
  (.ok ⟨ot, ((z4, ((20 : Int), ())), ())⟩))
theorem alo (x : VC) (Q : ou.Y → Prop) : wpf te Mv ay 1000 Try.f84 (ou.inp.inj x).tm (ou.inp.inj x).hp (fnK ou SK Q) (fun _ _ => False) = (abh (x.1.1) (x.1.2.1)).wpR Q := by kernel_rfl
theorem abg (pre : VC → Bool) (F : VC → OT ou.Y) (hF : ∀ (x : VC) oy, pre x = true → (F x).run = some oy → (abh (x.1.1) (x.1.2.1)).run = some oy) : ab Try.prog 84 (ou.aK pre F) :=
  aE au Dk WE (f := 84) (fn := Try.f84) (c := al Try.f84) (by kernel_rfl) (by kernel_rfl) (by kernel_rfl) (S := ou) (k := 0) (by kernel_rfl) (fun R hR => af) (n := 1000) (sel := SK) (fun v o h => by cases h; rfl) (pre := pre) (F := F) (T := fun x => abh (x.1.1) (x.1.2.1)) (fun x Q => alo x Q) hF
def acR (p : Nat) (a : aa) : aa := ofN (afS p 256 1 (a.nat % p) (p - 2))
theorem afU {s : Int} (h : aj s = true) : 2 ≤ pS s := by
  rcases cl h with rfl | rfl | rfl | rfl <;> decide +kernel
theorem aaF {s : Int} (h : aj s = true) (a : aa) : u6 (pS s) a (kx (bM s.toNat).1 ⟨2, 0, 0, 0⟩).1 = acR (pS s) a := by
  rw [HH (fc h).1]
  unfold acR
  have h2 : 2 ≤ (bM s.toNat).1.nat := afU h
  rw [lW (show (aa.mk 2 0 0 0).nat ≤ _ from h2)]
  rfl
theorem Qk {p : Nat} (hp : 0 < p ∧ p < 57896044618658097711785492504343953926634992332820282019728792003956564819968) (n : Nat) : cj (ofN (n % p)) = Nat.beq (n % p) 0 := by
  rw [e8, cv hp]
def SL (_ : VC) : Bool := true
def agd (x : VC) : OT ou.Y := .br (aj x.1.1) (.br (Nat.beq (x.1.2.1.nat % pS x.1.1) 0) (.ok ⟨ot, ((⟨0, 0, 0, 0⟩, ((10 : Int), ())), ())⟩) (.ok ⟨ot, ((acR (pS x.1.1) x.1.2.1, ((0 : Int), ())), ())⟩))
  (.ok ⟨ot, ((⟨0, 0, 0, 0⟩, ((20 : Int), ())), ())⟩)
theorem ajk : ab Try.prog 84 (ou.aK SL agd) := abg _ _ fun x oy hp ho => by
  rw [← ho]
  clear ho
  obtain ⟨⟨s, a, ⟨⟩⟩, ⟨⟩⟩ := x
  cases hs : aj s
  · exact (OT.ax hs).trans (OT.ax (b := aj s) hs).symm
  · have hz : cj (ofN (a.nat % pS s)) = Nat.beq (a.nat % pS s) 0 := Qk (fc hs) _
    refine (OT.ao hs).trans (Eq.trans ((ai ?_).trans ?_) (OT.ao (b := aj s) hs).symm)
    · simp only [List.all_cons, List.all_nil, Bool.and_true]
      exact py hs
    · cases hb : Nat.beq (a.nat % pS s) 0
      · rw [hb] at hz
        refine (OT.ax hz).trans ((OT.ao hs).trans (Eq.trans ?_ (OT.ax rfl).symm))
        simp only [aaF hs]
      · rw [hb] at hz
        exact (OT.ao hz).trans (OT.ao rfl).symm
def BO : cK := (ou.aK SL agd)
theorem VB : ab Try.prog 84 BO := ajk
theorem VA : aL BO := aD
def Mu : Env := aA 84 BO Mv
theorem Dh : aW Try.prog Mu := ag VB Dk
theorem Di : av Mu := ac VA Dl
theorem WD : bm Try.prog te Mu := aP follows au Dh Di
def gw : ap := ⟨[.val false .int], [], true, 0, false⟩
abbrev wF : Type := ((Int) × Unit) × (Unit)
def gv : az := ⟨[.val true .elem, .val false .bool], [], false⟩
def Fs : SV → Option az := fun _ => some gv
def HX (a0 : Int) : OT gw.Y :=
  let z0 : aa := { w0 := 5, w1 := 0, w2 := 0, w3 := 0 }
  let z1 : aa := { w0 := 0, w1 := 0, w2 := 0, w3 := 0 }
  (.br (a0 == (0 : Int))
  (.ok ⟨gv, (({ w0 := 23, w1 := 0, w2 := 0, w3 := 0 }, (true, ())), ())⟩)
  (.br (a0 == (1 : Int))
    (.ok ⟨gv, (({ w0 := 21, w1 := 0, w2 := 0, w3 := 0 }, (true, ())), ())⟩)
    (.br (a0 == (2 : Int))
      (.br (a0 == (2 : Int))
        (.ok ⟨gv, ((z0, (true, ())), ())⟩)
        (.ok ⟨gv, ((z1, (false, ())), ())⟩))
      (.br (a0 == (3 : Int))
        (.ok ⟨gv, ((z0, (true, ())), ())⟩)
        (.ok ⟨gv, ((z1, (false, ())), ())⟩)))))
theorem afj (x : wF) (Q : gw.Y → Prop) : wpf te Mu ay 1000 Try.f57 (gw.inp.inj x).tm (gw.inp.inj x).hp (fnK gw Fs Q) (fun _ _ => False) = (HX (x.1.1)).wpR Q := by kernel_rfl
theorem Pv (pre : wF → Bool) (F : wF → OT gw.Y) (hF : ∀ (x : wF) oy, pre x = true → (F x).run = some oy → (HX (x.1.1)).run = some oy) : ab Try.prog 57 (gw.aK pre F) :=
  aE au Dh WD (f := 57) (fn := Try.f57) (c := al Try.f57) (by kernel_rfl) (by kernel_rfl) (by kernel_rfl) (S := gw) (k := 0) (by kernel_rfl) (fun R hR => af) (n := 1000) (sel := Fs) (fun v o h => by cases h; rfl) (pre := pre) (F := F) (T := fun x => HX (x.1.1)) (fun x Q => afj x Q) hF
def bOf : Nat → aa
  | 0 => ⟨23, 0, 0, 0⟩
  | 1 => ⟨21, 0, 0, 0⟩
  | _ => ⟨5, 0, 0, 0⟩
abbrev bS (s : Int) : aa := bOf s.toNat
def Ft (_ : wF) : Bool := true
def Tg (x : wF) : OT gw.Y := .br (aj x.1.1) (.ok ⟨gv, ((bS x.1.1, (true, ())), ())⟩) (.ok ⟨gv, ((⟨0, 0, 0, 0⟩, (false, ())), ())⟩)
theorem ab7 : ab Try.prog 57 (gw.aK Ft Tg) := Pv _ _ fun x oy _ ho => by
  rw [← ho]
  clear ho
  obtain ⟨⟨s, ⟨⟩⟩, ⟨⟩⟩ := x
  cases hs : aj s
  · obtain ⟨h0, h1, h2, h3⟩ := o6 hs
    exact (OT.ax h0).trans ((OT.ax h1).trans ((OT.ax h2).trans ((OT.ax h3).trans (OT.ax (b := aj s) hs).symm)))
  · rcases cl hs with h | h | h | h
    all_goals
      have h : s = _ := h
      subst h
      rfl
def rR : cK := (gw.aK Ft Tg)
theorem LD : ab Try.prog 57 rR := ab7
theorem LC : aL rR := aD
def uV : Env := aA 57 rR Mu
theorem ss : aW Try.prog uV := ag LD Dh
theorem uU : av uV := ac LC Di
theorem ME : bm Try.prog te uV := aP follows au ss uU
def oH : ap := ⟨[], [], true, 0, false⟩
abbrev Wd : Type := (Unit) × (Unit)
def Po : az := ⟨[.val true (.prod .elem (.prod .elem .bool))], [], false⟩
def Td : SV → Option az := fun _ => some Po
def ab1 : OT oH.Y :=
  let z0 : aa := { w0 := 0, w1 := 0, w2 := 0, w3 := 0 }
  (.ok ⟨Po, (((z0, z0, true), ()), ())⟩)
theorem alC (x : Wd) (Q : oH.Y → Prop) : wpf te uV ay 1000 Try.f27 (oH.inp.inj x).tm (oH.inp.inj x).hp (fnK oH Td Q) (fun _ _ => False) = (ab1).wpR Q := by kernel_rfl
theorem ab0 (pre : Wd → Bool) (F : Wd → OT oH.Y) (hF : ∀ (x : Wd) oy, pre x = true → (F x).run = some oy → (ab1).run = some oy) : ab Try.prog 27 (oH.aK pre F) :=
  aE au ss ME (f := 27) (fn := Try.f27) (c := al Try.f27) (by kernel_rfl) (by kernel_rfl) (by kernel_rfl) (S := oH) (k := 0) (by kernel_rfl) (fun R hR => af) (n := 1000) (sel := Td) (fun v o h => by cases h; rfl) (pre := pre) (F := F) (T := fun x => ab1) (fun x Q => alC x Q) hF
def aB : aa × (aa × Bool) := (⟨0, 0, 0, 0⟩, ⟨0, 0, 0, 0⟩, true)
def Te (_ : Wd) : Bool := true
def agl (_ : Wd) : OT oH.Y := .ok ⟨Po, ((aB, ()), ())⟩
theorem ajK : ab Try.prog 27 (oH.aK Te agl) := ab0 _ _ fun x oy _ ho => ho
def Cf : cK := (oH.aK Te agl)
theorem Wc : ab Try.prog 27 Cf := ajK
theorem Wb : aL Cf := aD
def MD : Env := aA 27 Cf uV
theorem Dy : aW Try.prog MD := ag Wc ss
theorem Dz : av MD := ac Wb uU
theorem WK : bm Try.prog te MD := aP follows au Dy Dz
def jO : ap := ⟨[.val false .int, .val true .elem, .val true .elem], [], true, 0, false⟩
abbrev Fq : Type := ((Int) × (aa) × (aa) × Unit) × (Unit)
def gT : az := ⟨[.val true .elem], [], false⟩
def LB : SV → Option az := fun _ => some gT
def Pu (a0 : Int) (a1 : aa) (a2 : aa) : OT jO.Y :=
  let z0 : Bool := aj a0
  let z1 : Nat := pS a0
  let z2 : aa := { w0 := 0, w1 := 0, w2 := 0, w3 := 0 }
  let z3 : aa := nk z1 z2 a2
  (.br (z0)
  (.br (z0)
    (.br (z0)
      (.ok ⟨gT, ((nk z1 (aN z1 (aN z1 a1 a1) a1) a2, ()), ())⟩)
      (.ok ⟨gT, ((z2, ()), ())⟩))
    (.br (z0)
      (.ok ⟨gT, ((z3, ()), ())⟩)
      (.ok ⟨gT, ((z2, ()), ())⟩)))
  (.br (z0)
    (.br (z0)
      (.ok ⟨gT, ((nk z1 (aN z1 z2 a1) a2, ()), ())⟩)
      (.ok ⟨gT, ((z2, ()), ())⟩))
    (.br (z0)
      (.ok ⟨gT, ((z3, ()), ())⟩)
      (.ok ⟨gT, ((z2, ()), ())⟩))))
theorem ajL (x : Fq) (Q : jO.Y → Prop) : wpf te MD ay 1000 Try.f61 (jO.inp.inj x).tm (jO.inp.inj x).hp (fnK jO LB Q) (fun _ _ => False) = (Pu (x.1.1) (x.1.2.1) (x.1.2.2.1)).wpR Q := by kernel_rfl
theorem Wg (pre : Fq → Bool) (F : Fq → OT jO.Y) (hF : ∀ (x : Fq) oy, pre x = true → (F x).run = some oy → (Pu (x.1.1) (x.1.2.1) (x.1.2.2.1)).run = some oy) : ab Try.prog 61 (jO.aK pre F) :=
  aE au Dy WK (f := 61) (fn := Try.f61) (c := al Try.f61) (by kernel_rfl) (by kernel_rfl) (by kernel_rfl) (S := jO) (k := 0) (by kernel_rfl) (fun R hR => af) (n := 1000) (sel := LB) (fun v o h => by cases h; rfl) (pre := pre) (F := F) (T := fun x => Pu (x.1.1) (x.1.2.1) (x.1.2.2.1)) (fun x Q => ajL x Q) hF
def yR (p : Nat) (x b : aa) : aa := nk p (aN p (aN p x x) x) b
def Cj (x : Fq) : Bool := aj x.1.1
def ab6 (x : Fq) : OT jO.Y := .ok ⟨gT, ((yR (pS x.1.1) x.1.2.1 x.1.2.2.1, ()), ())⟩
theorem afi : ab Try.prog 61 (jO.aK Cj ab6) := Wg _ _ fun x oy hp ho => by
  rw [← ho]
  clear ho
  obtain ⟨⟨s, a, b, ⟨⟩⟩, ⟨⟩⟩ := x
  have hs : aj s = true := hp
  exact (OT.ao hs).trans ((OT.ao hs).trans ((OT.ao hs).trans rfl))
def wE : cK := (jO.aK Cj ab6)
theorem Ps : ab Try.prog 61 wE := afi
theorem Pq : aL wE := aD
def DA : Env := aA 61 wE MD
theorem xr : aW Try.prog DA := ag Ps Dy
theorem yF : av DA := ac Pq Dz
theorem Qh : bm Try.prog te DA := aP follows au xr yF
def yS : ap := ⟨[.val false .int, .val true (.prod .elem (.prod .elem .bool))], [], true, 0, false⟩
abbrev akc : Type := ((Int) × ((aa × (aa × Bool))) × Unit) × (Unit)
def qG : az := ⟨[.val false .bool], [], false⟩
def abP : SV → Option az := fun _ => some qG
def ajG (a0 : Int) (a1 : (aa × (aa × Bool))) : OT yS.Y :=
  let z0 : Bool := aj a0
  let z1 : Nat := aa.nat (bM (Int.toNat a0)).fst
  let z2 : aa := bS a0
  let z3 : Bool := Cj ((a0, a1.fst, z2, ()), ())
  let z4 : Nat := pS a0
  let z5 : aa := aN z4 a1.snd.fst a1.snd.fst
  let z6 : aa := yR z4 a1.fst z2
  let z7 := z6.w0
  let z8 := z6.w1
  let z9 := z6.w2
  let z10 := z6.w3
  (.br (z0)
  (.br (a1.snd.snd)
    (.ok ⟨qG, ((a1.fst.w0 == (0 : UInt64) && (a1.fst.w1 == (0 : UInt64) && (a1.fst.w2 == (0 : UInt64) && (a1.fst.w3 == (0 : UInt64) && true))) && (a1.snd.fst.w0 == (0 : UInt64) && (a1.snd.fst.w1 == (0 : UInt64) && (a1.snd.fst.w2 == (0 : UInt64) && (a1.snd.fst.w3 == (0 : UInt64) && true))) && (a1.snd.snd == true && true)), ()), ())⟩)
    (.br (z0)
      (.br (Nat.blt (aa.nat a1.fst) z1)
        (.br (Nat.blt (aa.nat a1.snd.fst) z1)
          (.br (z0)
            (gd [z3] (.ok ⟨qG, ((z5.w0 == z7 && (z5.w1 == z8 && (z5.w2 == z9 && (z5.w3 == z10 && true))), ()), ())⟩))
            (gd [z3] (.ok ⟨qG, (((0 : UInt64) == z7 && ((0 : UInt64) == z8 && ((0 : UInt64) == z9 && ((0 : UInt64) == z10 && true))), ()), ())⟩)))
          (.ok ⟨qG, ((false, ()), ())⟩))
        (.ok ⟨qG, ((false, ()), ())⟩))
      (.ok ⟨qG, ((false, ()), ())⟩)))
  (.ok ⟨qG, ((false, ()), ())⟩))
theorem amu (x : akc) (Q : yS.Y → Prop) : wpf te DA ay 1000 Try.f21 (yS.inp.inj x).tm (yS.inp.inj x).hp (fnK yS abP Q) (fun _ _ => False) = (ajG (x.1.1) (x.1.2.1)).wpR Q := by kernel_rfl
theorem afb (pre : akc → Bool) (F : akc → OT yS.Y) (hF : ∀ (x : akc) oy, pre x = true → (F x).run = some oy → (ajG (x.1.1) (x.1.2.1)).run = some oy) : ab Try.prog 21 (yS.aK pre F) :=
  aE au xr Qh (f := 21) (fn := Try.f21) (c := al Try.f21) (by kernel_rfl) (by kernel_rfl) (by kernel_rfl) (S := yS) (k := 0) (by kernel_rfl) (fun R hR => af) (n := 1000) (sel := abP) (fun v o h => by cases h; rfl) (pre := pre) (F := F) (T := fun x => ajG (x.1.1) (x.1.2.1)) (fun x Q => amu x Q) hF
def eqE (a b : aa) : Bool := (a.w0 == b.w0 && (a.w1 == b.w1 && (a.w2 == b.w2 && (a.w3 == b.w3 && true))))
theorem kD {a b : aa} : eqE a b = true ↔ a = b := by
  obtain ⟨a0, a1, a2, a3⟩ := a
  obtain ⟨b0, b1, b2, b3⟩ := b
  simp [eqE]
theorem HJ (a : aa) : eqE a a = true := kD.2 rfl
theorem ajA (a b : aa) : eqE a b = Nat.beq a.nat b.nat := by
  cases h : eqE a b
  · cases hb : Nat.beq a.nat b.nat
    · rfl
    · rw [kD.2 (js (Nat.eq_of_beq_eq_true hb))] at h
      cases h
  · rw [kD.1 h]
    exact (Nat.beq_refl _).symm
abbrev Pt : Type := aa × (aa × Bool)
def onB (c : Int) (P : Pt) : Bool := cond (aj c) (cond P.2.2 (cj P.1 && (cj P.2.1 && (P.2.2 == true && true)))
  (cond (Nat.blt P.1.nat (pS c)) (cond (Nat.blt P.2.1.nat (pS c)) (eqE (aN (pS c) P.2.1 P.2.1) (yR (pS c) P.1 (bS c))) false) false)) false
def abQ (_ : akc) : Bool := true
def alz (x : akc) : OT yS.Y := .ok ⟨qG, ((onB x.1.1 x.1.2.1, ()), ())⟩
theorem aly : ab Try.prog 21 (yS.aK abQ alz) := afb _ _ fun x oy _ ho => by
  rw [← ho]
  clear ho
  obtain ⟨⟨c, ⟨X, Y, i⟩, ⟨⟩⟩, ⟨⟩⟩ := x
  show _ = (OT.ok ⟨qG, ((onB c (X, Y, i), ()), ())⟩ : OT yS.Y).run
  unfold onB
  cases hs : aj c
  · exact OT.ax hs
  · refine (OT.ao hs).trans ?_
    cases i
    · refine (OT.ax rfl).trans ((OT.ao hs).trans ?_)
      cases hx : Nat.blt X.nat (pS c)
      · exact OT.ax hx
      · refine (OT.ao hx).trans ?_
        cases hy : Nat.blt Y.nat (pS c)
        · exact OT.ax hy
        · refine (OT.ao hy).trans ((OT.ao hs).trans ((ai ?_).trans rfl))
          simp only [List.all_cons, List.all_nil, Bool.and_true]
          exact hs
    · exact OT.ao rfl
def HP : cK := (yS.aK abQ alz)
theorem abR : ab Try.prog 21 HP := aly
theorem abO : aL HP := aD
def acP : Env := aA 21 HP DA
theorem IA : aW Try.prog acP := ag abR xr
theorem FR : av acP := ac abO yF
theorem acO : bm Try.prog te acP := aP follows au IA FR
def m9 : ap := ⟨[.val false .int, .val true (.prod .elem (.prod .elem .bool))], [], true, 0, false⟩
abbrev V4 : Type := ((Int) × ((aa × (aa × Bool))) × Unit) × (Unit)
def rP : az := ⟨[.val true (.prod .elem (.prod .elem .bool))], [], false⟩
def S6 : SV → Option az := fun _ => some rP
def abT (a0 : Int) (a1 : (aa × (aa × Bool))) : OT m9.Y :=
  let z0 : aa := { w0 := 0, w1 := 0, w2 := 0, w3 := 0 }
  let z1 : aa × aa × Bool := (z0, z0, true)
  (.br (!onB a0 a1)
  (.ok ⟨rP, ((z1, ()), ())⟩)
  (.br (a1.snd.snd)
    (.ok ⟨rP, ((z1, ()), ())⟩)
    (.br (aj a0)
      (.ok ⟨rP, (((a1.fst, AC (pS a0) a1.snd.fst, a1.snd.snd), ()), ())⟩)
      (.ok ⟨rP, (((a1.fst, z0, a1.snd.snd), ()), ())⟩))))
theorem alA (x : V4) (Q : m9.Y → Prop) : wpf te acP ay 1000 Try.f23 (m9.inp.inj x).tm (m9.inp.inj x).hp (fnK m9 S6 Q) (fun _ _ => False) = (abT (x.1.1) (x.1.2.1)).wpR Q := by kernel_rfl
theorem abS (pre : V4 → Bool) (F : V4 → OT m9.Y) (hF : ∀ (x : V4) oy, pre x = true → (F x).run = some oy → (abT (x.1.1) (x.1.2.1)).run = some oy) : ab Try.prog 23 (m9.aK pre F) :=
  aE au IA acO (f := 23) (fn := Try.f23) (c := al Try.f23) (by kernel_rfl) (by kernel_rfl) (by kernel_rfl) (S := m9) (k := 0) (by kernel_rfl) (fun R hR => af) (n := 1000) (sel := S6) (fun v o h => by cases h; rfl) (pre := pre) (F := F) (T := fun x => abT (x.1.1) (x.1.2.1)) (fun x Q => alA x Q) hF
def aiI (c : Int) (P : Pt) : Pt := cond (onB c P) (cond P.2.2 aB (P.1, AC (pS c) P.2.1, P.2.2)) aB
theorem mn {c : Int} {P : Pt} (h : onB c P = true) : aj c = true := by
  unfold onB at h
  cases hs : aj c
  · rw [hs] at h; cases h
  · rfl
def S7 (_ : V4) : Bool := true
def agj (x : V4) : OT m9.Y := .ok ⟨rP, ((aiI x.1.1 x.1.2.1, ()), ())⟩
theorem ajH : ab Try.prog 23 (m9.aK S7 agj) := abS _ _ fun x oy _ ho => by
  rw [← ho]
  clear ho
  obtain ⟨⟨c, ⟨X, Y, i⟩, ⟨⟩⟩, ⟨⟩⟩ := x
  show _ = (OT.ok ⟨rP, ((aiI c (X, Y, i), ()), ())⟩ : OT m9.Y).run
  unfold aiI
  cases ho : onB c (X, Y, i)
  · exact OT.ao (b := !onB c (X, Y, i)) (by rw [ho]; rfl)
  · refine (OT.ax (b := !onB c (X, Y, i)) (by rw [ho]; rfl)).trans ?_
    cases i
    · exact (OT.ax rfl).trans (OT.ao (mn ho))
    · exact OT.ao rfl
def B9 : cK := (m9.aK S7 agj)
theorem V3 : ab Try.prog 23 B9 := ajH
theorem V2 : aL B9 := aD
def MA : Env := aA 23 B9 acP
theorem Dt : aW Try.prog MA := ag V3 IA
theorem Du : av MA := ac V2 FR
theorem WI : bm Try.prog te MA := aP follows au Dt Du
def gu : ap := ⟨[.val true (.prod .elem (.prod .elem .elem))], [], true, 0, false⟩
abbrev wD : Type := (((aa × (aa × aa))) × Unit) × (Unit)
def Ce : az := ⟨[.val false .bool], [], false⟩
def Fo : SV → Option az := fun _ => some Ce
def HT (a0 : (aa × (aa × aa))) : OT gu.Y :=
  (.ok ⟨Ce, ((a0.snd.snd.w0 == (0 : UInt64) && (a0.snd.snd.w1 == (0 : UInt64) && (a0.snd.snd.w2 == (0 : UInt64) && (a0.snd.snd.w3 == (0 : UInt64) && true))), ()), ())⟩)
theorem afh (x : wD) (Q : gu.Y → Prop) : wpf te MA ay 1000 Try.f80 (gu.inp.inj x).tm (gu.inp.inj x).hp (fnK gu Fo Q) (fun _ _ => False) = (HT (x.1.1)).wpR Q := by kernel_rfl
theorem Pn (pre : wD → Bool) (F : wD → OT gu.Y) (hF : ∀ (x : wD) oy, pre x = true → (F x).run = some oy → (HT (x.1.1)).run = some oy) : ab Try.prog 80 (gu.aK pre F) :=
  aE au Dt WI (f := 80) (fn := Try.f80) (c := al Try.f80) (by kernel_rfl) (by kernel_rfl) (by kernel_rfl) (S := gu) (k := 0) (by kernel_rfl) (fun R hR => af) (n := 1000) (sel := Fo) (fun v o h => by cases h; rfl) (pre := pre) (F := F) (T := fun x => HT (x.1.1)) (fun x Q => afh x Q) hF
abbrev zx : Type := aa × (aa × aa)
def Fp (_ : wD) : Bool := true
def Tc (x : wD) : OT gu.Y := .ok ⟨Ce, ((cj x.1.1.2.2, ()), ())⟩
theorem abZ : ab Try.prog 80 (gu.aK Fp Tc) := Pn _ _ fun x oy hp ho => by
  rw [← ho]
  rfl
def rQ : cK := (gu.aK Fp Tc)
theorem Ly : ab Try.prog 80 rQ := abZ
theorem Lx : aL rQ := aD
def uT : Env := aA 80 rQ MA
theorem sr : aW Try.prog uT := ag Ly Dt
theorem uS : av uT := ac Lx Du
theorem MC : bm Try.prog te uT := aP follows au sr uS
def gn : ap := ⟨[.val true (.prod .elem (.prod .elem .bool))], [], true, 0, false⟩
abbrev wA : Type := (((aa × (aa × Bool))) × Unit) × (Unit)
def tX : az := ⟨[.val true (.prod .elem (.prod .elem .elem))], [], false⟩
def Fg : SV → Option az := fun _ => some tX
def HL (a0 : (aa × (aa × Bool))) : OT gn.Y :=
  let z0 : aa := { w0 := 0, w1 := 0, w2 := 0, w3 := 0 }
  (.br (a0.snd.snd)
  (.ok ⟨tX, (((z0, z0, z0), ()), ())⟩)
  (.ok ⟨tX, (((a0.fst, a0.snd.fst, { w0 := 1, w1 := 0, w2 := 0, w3 := 0 }), ()), ())⟩))
theorem ae9 (x : wA) (Q : gn.Y → Prop) : wpf te uT ay 1000 Try.f51 (gn.inp.inj x).tm (gn.inp.inj x).hp (fnK gn Fg Q) (fun _ _ => False) = (HL (x.1.1)).wpR Q := by kernel_rfl
theorem Ph (pre : wA → Bool) (F : wA → OT gn.Y) (hF : ∀ (x : wA) oy, pre x = true → (F x).run = some oy → (HL (x.1.1)).run = some oy) : ab Try.prog 51 (gn.aK pre F) :=
  aE au sr MC (f := 51) (fn := Try.f51) (c := al Try.f51) (by kernel_rfl) (by kernel_rfl) (by kernel_rfl) (S := gn) (k := 0) (by kernel_rfl) (fun R hR => af) (n := 1000) (sel := Fg) (fun v o h => by cases h; rfl) (pre := pre) (F := F) (T := fun x => HL (x.1.1)) (fun x Q => ae9 x Q) hF
def eu (P : Pt) : zx := cond P.2.2 (⟨0, 0, 0, 0⟩, ⟨0, 0, 0, 0⟩, ⟨0, 0, 0, 0⟩) (P.1, P.2.1, ⟨1, 0, 0, 0⟩)
def Fh (_ : wA) : Bool := true
def S3 (x : wA) : OT gn.Y := .ok ⟨tX, ((eu x.1.1, ()), ())⟩
theorem abJ : ab Try.prog 51 (gn.aK Fh S3) := Ph _ _ fun x oy hp ho => by
  rw [← ho]
  clear ho
  obtain ⟨⟨⟨X, Y, i⟩, ⟨⟩⟩, ⟨⟩⟩ := x
  cases i <;> rfl
def rN : cK := (gn.aK Fh S3)
theorem Lo : ab Try.prog 51 rN := abJ
theorem Ln : aL rN := aD
def uP : Env := aA 51 rN uT
theorem sk : aW Try.prog uP := ag Lo sr
theorem uO : av uP := ac Ln uS
theorem Mx : bm Try.prog te uP := aP follows au sk uO
def oF : ap := ⟨[.val false .int, .val true .elem, .val true .elem], [], true, 0, false⟩
abbrev V9 : Type := ((Int) × (aa) × (aa) × Unit) × (Unit)
def HS : az := ⟨[.val true .elem], [], false⟩
def Ta : SV → Option az := fun _ => some HS
def abX (a0 : Int) (a1 : aa) (a2 : aa) : OT oF.Y :=
  (.br (aj a0)
  (.ok ⟨HS, ((aN (pS a0) a1 a2, ()), ())⟩)
  (.ok ⟨HS, (({ w0 := 0, w1 := 0, w2 := 0, w3 := 0 }, ()), ())⟩))
theorem alB (x : V9) (Q : oF.Y → Prop) : wpf te uP ay 1000 Try.f81 (oF.inp.inj x).tm (oF.inp.inj x).hp (fnK oF Ta Q) (fun _ _ => False) = (abX (x.1.1) (x.1.2.1) (x.1.2.2.1)).wpR Q := by kernel_rfl
theorem abW (pre : V9 → Bool) (F : V9 → OT oF.Y) (hF : ∀ (x : V9) oy, pre x = true → (F x).run = some oy → (abX (x.1.1) (x.1.2.1) (x.1.2.2.1)).run = some oy) : ab Try.prog 81 (oF.aK pre F) :=
  aE au sk Mx (f := 81) (fn := Try.f81) (c := al Try.f81) (by kernel_rfl) (by kernel_rfl) (by kernel_rfl) (S := oF) (k := 0) (by kernel_rfl) (fun R hR => af) (n := 1000) (sel := Ta) (fun v o h => by cases h; rfl) (pre := pre) (F := F) (T := fun x => abX (x.1.1) (x.1.2.1) (x.1.2.2.1)) (fun x Q => alB x Q) hF
def bp (x : V9) : Bool := aj x.1.1
def agk (x : V9) : OT oF.Y := .ok ⟨HS, ((aN (pS x.1.1) x.1.2.1 x.1.2.2.1, ()), ())⟩
theorem ajJ : ab Try.prog 81 (oF.aK bp agk) := abW _ _ fun x oy hp ho => by
  rw [← ho]
  clear ho
  obtain ⟨⟨s, a, b, ⟨⟩⟩, ⟨⟩⟩ := x
  have hs : aj s = true := hp
  exact (OT.ao hs).trans rfl
def Cd : cK := (oF.aK bp agk)
theorem V8 : ab Try.prog 81 Cd := ajJ
theorem V7 : aL Cd := aD
def MB : Env := aA 81 Cd uP
theorem Dw : aW Try.prog MB := ag V8 sk
theorem Dx : av MB := ac V7 uO
theorem WJ : bm Try.prog te MB := aP follows au Dw Dx
def oC : ap := ⟨[.val false .int, .val true .elem, .val true .elem], [], true, 0, false⟩
abbrev VZ : Type := ((Int) × (aa) × (aa) × Unit) × (Unit)
def HN : az := ⟨[.val true .elem], [], false⟩
def S5 : SV → Option az := fun _ => some HN
def abM (a0 : Int) (a1 : aa) (a2 : aa) : OT oC.Y :=
  (.br (aj a0)
  (.ok ⟨HN, ((eM (pS a0) a1 a2, ()), ())⟩)
  (.ok ⟨HN, (({ w0 := 0, w1 := 0, w2 := 0, w3 := 0 }, ()), ())⟩))
theorem alx (x : VZ) (Q : oC.Y → Prop) : wpf te MB ay 1000 Try.f83 (oC.inp.inj x).tm (oC.inp.inj x).hp (fnK oC S5 Q) (fun _ _ => False) = (abM (x.1.1) (x.1.2.1) (x.1.2.2.1)).wpR Q := by kernel_rfl
theorem abL (pre : VZ → Bool) (F : VZ → OT oC.Y) (hF : ∀ (x : VZ) oy, pre x = true → (F x).run = some oy → (abM (x.1.1) (x.1.2.1) (x.1.2.2.1)).run = some oy) : ab Try.prog 83 (oC.aK pre F) :=
  aE au Dw WJ (f := 83) (fn := Try.f83) (c := al Try.f83) (by kernel_rfl) (by kernel_rfl) (by kernel_rfl) (S := oC) (k := 0) (by kernel_rfl) (fun R hR => af) (n := 1000) (sel := S5) (fun v o h => by cases h; rfl) (pre := pre) (F := F) (T := fun x => abM (x.1.1) (x.1.2.1) (x.1.2.2.1)) (fun x Q => alx x Q) hF
def gr (x : VZ) : Bool := aj x.1.1
def agi (x : VZ) : OT oC.Y := .ok ⟨HN, ((eM (pS x.1.1) x.1.2.1 x.1.2.2.1, ()), ())⟩
theorem ajF : ab Try.prog 83 (oC.aK gr agi) := abL _ _ fun x oy hp ho => by
  rw [← ho]
  clear ho
  obtain ⟨⟨s, a, b, ⟨⟩⟩, ⟨⟩⟩ := x
  have hs : aj s = true := hp
  exact (OT.ao hs).trans rfl
def B8 : cK := (oC.aK gr agi)
theorem VY : ab Try.prog 83 B8 := ajF
theorem VX : aL B8 := aD
def Mz : Env := aA 83 B8 MB
theorem Dr : aW Try.prog Mz := ag VY Dw
theorem Ds : av Mz := ac VX Dx
theorem WH : bm Try.prog te Mz := aP follows au Dr Ds
def gq : ap := ⟨[.val false .int, .val true .elem, .val false .u64], [], true, 0, false⟩
abbrev wB : Type := ((Int) × (aa) × (UInt64) × Unit) × (Unit)
def B7 : az := ⟨[.val true .elem], [], false⟩
def Fi : SV → Option az := fun _ => some B7
def HM (a0 : Int) (a1 : aa) (a2 : UInt64) : OT gq.Y :=
  let z0 : aa := { w0 := a2, w1 := 0, w2 := 0, w3 := 0 }
  (gd [bp ((a0, a1, z0, ()), ())] (.ok ⟨B7, ((aN (pS a0) a1 z0, ()), ())⟩))
theorem afa (x : wB) (Q : gq.Y → Prop) : wpf te Mz ay 1000 Try.f82 (gq.inp.inj x).tm (gq.inp.inj x).hp (fnK gq Fi Q) (fun _ _ => False) = (HM (x.1.1) (x.1.2.1) (x.1.2.2.1)).wpR Q := by kernel_rfl
theorem Pj (pre : wB → Bool) (F : wB → OT gq.Y) (hF : ∀ (x : wB) oy, pre x = true → (F x).run = some oy → (HM (x.1.1) (x.1.2.1) (x.1.2.2.1)).run = some oy) : ab Try.prog 82 (gq.aK pre F) :=
  aE au Dr WH (f := 82) (fn := Try.f82) (c := al Try.f82) (by kernel_rfl) (by kernel_rfl) (by kernel_rfl) (S := gq) (k := 0) (by kernel_rfl) (fun R hR => af) (n := 1000) (sel := Fi) (fun v o h => by cases h; rfl) (pre := pre) (F := F) (T := fun x => HM (x.1.1) (x.1.2.1) (x.1.2.2.1)) (fun x Q => afa x Q) hF
def iV (p : Nat) (a : aa) (n : UInt64) : aa := aN p a ⟨n, 0, 0, 0⟩
def fF (x : wB) : Bool := aj x.1.1
def S4 (x : wB) : OT gq.Y := .ok ⟨B7, ((iV (pS x.1.1) x.1.2.1 x.1.2.2.1, ()), ())⟩
theorem abK : ab Try.prog 82 (gq.aK fF S4) := Pj _ _ fun x oy hp ho => by
  rw [← ho]
  clear ho
  obtain ⟨⟨s, a, b, ⟨⟩⟩, ⟨⟩⟩ := x
  have hs : aj s = true := hp
  refine (ai ?_).trans rfl
  simp only [List.all_cons, List.all_nil, Bool.and_true]
  exact hs
def rO : cK := (gq.aK fF S4)
theorem Lq : ab Try.prog 82 rO := abK
theorem Lp : aL rO := aD
def uR : Env := aA 82 rO Mz
theorem sn : aW Try.prog uR := ag Lq Dr
theorem uQ : av uR := ac Lp Ds
theorem My : bm Try.prog te uR := aP follows au sn uQ
def dV : ap := ⟨[.val false .int, .val true (.prod .elem (.prod .elem .elem))], [], true, 0, false⟩
abbrev pW : Type := ((Int) × ((aa × (aa × aa))) × Unit) × (Unit)
def gN : az := ⟨[.val true (.prod .elem (.prod .elem .bool))], [], false⟩
def Ca : SV → Option az := fun _ => some gN
def Cb (a0 : Int) (a1 : (aa × (aa × aa))) : OT dV.Y :=
  let z0 : aa := { w0 := 0, w1 := 0, w2 := 0, w3 := 0 }
  let z1 : Nat := pS a0
  let z2 : aa × PUnit := (z0, ())
  let z3 : Bool := bp ((a0, z0, z2), ())
  let z4 : aa := aN z1 z0 z0
  let z5 : Bool := bp ((a0, a1.fst, z4, ()), ())
  let z6 : Bool := bp ((a0, z4, z2), ())
  let z7 : aa := aN z1 z4 z0
  let z8 : Bool := bp ((a0, a1.snd.fst, z7, ()), ())
  let z9 : aa × aa × Bool := (aN z1 a1.fst z4, aN z1 a1.snd.fst z7, false)
  let z10 : aa := acR z1 a1.snd.snd
  let z11 : aa × PUnit := (z10, ())
  let z12 : aa := aN z1 z10 z10
  let z13 : aa := aN z1 z12 z10
  (.br (cj a1.snd.snd)
  (.ok ⟨gN, (((z0, z0, true), ()), ())⟩)
  (.br (aj a0)
    (.br (Nat.beq (aa.nat a1.snd.snd % z1) 0)
      (gd [z3, z5, z6, z8] (.ok ⟨gN, ((z9, ()), ())⟩))
      (gd [bp ((a0, z10, z11), ()), bp ((a0, a1.fst, z12, ()), ()), bp ((a0, z12, z11), ()), bp ((a0, a1.snd.fst, z13, ()), ())] (.ok ⟨gN, (((aN z1 a1.fst z12, aN z1 a1.snd.fst z13, false), ()), ())⟩)))
    (gd [z3, z5, z6, z8] (.ok ⟨gN, ((z9, ()), ())⟩))))
theorem abU (x : pW) (Q : dV.Y → Prop) : wpf te uR ay 1000 Try.f52 (dV.inp.inj x).tm (dV.inp.inj x).hp (fnK dV Ca Q) (fun _ _ => False) = (Cb (x.1.1) (x.1.2.1)).wpR Q := by kernel_rfl
theorem Lt (pre : pW → Bool) (F : pW → OT dV.Y) (hF : ∀ (x : pW) oy, pre x = true → (F x).run = some oy → (Cb (x.1.1) (x.1.2.1)).run = some oy) : ab Try.prog 52 (dV.aK pre F) :=
  aE au sn My (f := 52) (fn := Try.f52) (c := al Try.f52) (by kernel_rfl) (by kernel_rfl) (by kernel_rfl) (S := dV) (k := 0) (by kernel_rfl) (fun R hR => af) (n := 1000) (sel := Ca) (fun v o h => by cases h; rfl) (pre := pre) (F := F) (T := fun x => Cb (x.1.1) (x.1.2.1)) (fun x Q => abU x Q) hF
def sD (p : Nat) (a : aa) : aa := cond (Nat.beq (a.nat % p) 0) ⟨0, 0, 0, 0⟩ (acR p a)
def Ob (p : Nat) (x y i : aa) : Pt := (aN p x (aN p i i), aN p y (aN p (aN p i i) i), false)
def eF (p : Nat) (w : zx) : Pt := cond (cj w.2.2) aB (Ob p w.1 w.2.1 (sD p w.2.2))
def jM (x : pW) : Bool := aj x.1.1
def Lu (x : pW) : OT dV.Y := .ok ⟨gN, ((eF (pS x.1.1) x.1.2.1, ()), ())⟩
theorem V5 : ab Try.prog 52 (dV.aK jM Lu) := Lt _ _ fun x oy hp ho => by
  rw [← ho]
  clear ho
  obtain ⟨⟨c, ⟨X, Y, Z⟩, ⟨⟩⟩, ⟨⟩⟩ := x
  have hs : aj c = true := hp
  show _ = (OT.ok ⟨gN, ((eF (pS c) (X, Y, Z), ()), ())⟩ : OT dV.Y).run
  unfold eF
  dsimp only
  cases hz : cj Z
  · refine (OT.ax hz).trans ((OT.ao hs).trans ?_)
    unfold sD
    cases hb : Nat.beq (Z.nat % pS c) 0
    · refine (OT.ax rfl).trans ((ai ?_).trans rfl)
      simp only [List.all_cons, List.all_nil, Bool.and_true, Bool.and_eq_true]
      exact ⟨hs, hs, hs, hs⟩
    · refine (OT.ao rfl).trans ((ai ?_).trans rfl)
      simp only [List.all_cons, List.all_nil, Bool.and_true, Bool.and_eq_true]
      exact ⟨hs, hs, hs, hs⟩
  · exact OT.ao hz
def oE : cK := (dV.aK jM Lu)
theorem HR : ab Try.prog 52 oE := V5
theorem HQ : aL oE := aD
def oZ : Env := aA 52 oE uR
theorem oY : aW Try.prog oZ := ag HR sn
theorem qO : av oZ := ac HQ uQ
theorem IB : bm Try.prog te oZ := aP follows au oY qO
def dW : ap := ⟨[.val false .int, .val true (.prod .elem (.prod .elem .elem))], [], true, 0, false⟩
abbrev pZ : Type := ((Int) × ((aa × (aa × aa))) × Unit) × (Unit)
def lI : az := ⟨[.val true (.prod .elem (.prod .elem .elem))], [], false⟩
def Cg : SV → Option az := fun _ => some lI
def Ci (a0 : Int) (a1 : (aa × (aa × aa))) : OT dW.Y :=
  let z0 : Nat := pS a0
  let z1 : aa := aN z0 a1.snd.fst a1.snd.fst
  let z2 : aa × PUnit := (z1, ())
  let z3 : aa := aN z0 a1.fst z1
  let z4 : aa := aN z0 a1.fst a1.fst
  let z5 : aa := iV z0 z4 (3 : UInt64)
  let z6 : aa := iV z0 z3 (4 : UInt64)
  let z7 : UInt64 × PUnit := ((2 : UInt64), ())
  let z8 : aa := aN z0 z5 z5
  let z9 : aa := iV z0 z6 (2 : UInt64)
  let z10 : aa := eM z0 z8 z9
  let z11 : aa := eM z0 z6 z10
  let z12 : aa := aN z0 z1 z1
  let z13 : aa := aN z0 z5 z11
  let z14 : aa := iV z0 z12 (8 : UInt64)
  let z15 : aa := aN z0 a1.snd.fst a1.snd.snd
  (.br (cj a1.snd.snd)
  (.ok ⟨lI, ((a1, ()), ())⟩)
  (gd [bp ((a0, a1.snd.fst, a1.snd.fst, ()), ()), bp ((a0, a1.fst, z2), ()), fF ((a0, z3, (4 : UInt64), ()), ()), bp ((a0, a1.fst, a1.fst, ()), ()), fF ((a0, z4, (3 : UInt64), ()), ()), bp ((a0, z5, z5, ()), ()), fF ((a0, z6, z7), ()), gr ((a0, z8, z9, ()), ()), gr ((a0, z6, z10, ()), ()), bp ((a0, z5, z11, ()), ()), bp ((a0, z1, z2), ()), fF ((a0, z12, (8 : UInt64), ()), ()), gr ((a0, z13, z14, ()), ()), bp ((a0, a1.snd.fst, a1.snd.snd, ()), ()), fF ((a0, z15, z7), ())] (.ok ⟨lI, (((z10, eM z0 z13 z14, iV z0 z15 (2 : UInt64)), ()), ())⟩)))
theorem ab5 (x : pZ) (Q : dW.Y → Prop) : wpf te oZ ay 1000 Try.f48 (dW.inp.inj x).tm (dW.inp.inj x).hp (fnK dW Cg Q) (fun _ _ => False) = (Ci (x.1.1) (x.1.2.1)).wpR Q := by kernel_rfl
theorem Lz (pre : pZ → Bool) (F : pZ → OT dW.Y) (hF : ∀ (x : pZ) oy, pre x = true → (F x).run = some oy → (Ci (x.1.1) (x.1.2.1)).run = some oy) : ab Try.prog 48 (dW.aK pre F) :=
  aE au oY IB (f := 48) (fn := Try.f48) (c := al Try.f48) (by kernel_rfl) (by kernel_rfl) (by kernel_rfl) (S := dW) (k := 0) (by kernel_rfl) (fun R hR => af) (n := 1000) (sel := Cg) (fun v o h => by cases h; rfl) (pre := pre) (F := F) (T := fun x => Ci (x.1.1) (x.1.2.1)) (fun x Q => ab5 x Q) hF
def amr (p : Nat) (x y z : aa) : zx :=
  let yy := aN p y y
  let s := iV p (aN p x yy) 4
  let m := iV p (aN p x x) 3
  let x' := eM p (aN p m m) (iV p s 2)
  (x', eM p (aN p m (eM p s x')) (iV p (aN p yy yy) 8), iV p (aN p y z) 2)
def Pg (p : Nat) (w : zx) : zx := cond (cj w.2.2) w (amr p w.1 w.2.1 w.2.2)
def mK (x : pZ) : Bool := aj x.1.1
def LA (x : pZ) : OT dW.Y := .ok ⟨lI, ((Pg (pS x.1.1) x.1.2.1, ()), ())⟩
theorem Wf : ab Try.prog 48 (dW.aK mK LA) := Lz _ _ fun x oy hp ho => by
  rw [← ho]
  clear ho
  obtain ⟨⟨c, ⟨X, Y, Z⟩, ⟨⟩⟩, ⟨⟩⟩ := x
  have hs : aj c = true := hp
  show _ = (OT.ok ⟨lI, ((Pg (pS c) (X, Y, Z), ()), ())⟩ : OT dW.Y).run
  unfold Pg
  dsimp only
  cases hz : cj Z
  · refine (OT.ax hz).trans ((ai ?_).trans rfl)
    simp only [List.all_cons, List.all_nil, Bool.and_true, Bool.and_eq_true]
    exact ⟨hs, hs, hs, hs, hs, hs, hs, hs, hs, hs, hs, hs, hs, hs, hs⟩
  · exact OT.ao hz
def oI : cK := (dW.aK mK LA)
theorem HW : ab Try.prog 48 oI := Wf
theorem HV : aL oI := aD
def o3 : Env := aA 48 oI oZ
theorem o0 : aW Try.prog o3 := ag HW oY
theorem qP : av o3 := ac HV qO
theorem IC : bm Try.prog te o3 := aP follows au o0 qP
def iy : ap := ⟨[.val false .int, .val true (.prod .elem (.prod .elem .elem)), .val true (.prod .elem (.prod .elem .elem))], [], true, 0, false⟩
abbrev Fu : Type := ((Int) × ((aa × (aa × aa))) × ((aa × (aa × aa))) × Unit) × (Unit)
def kn : az := ⟨[.val true (.prod .elem (.prod .elem .elem))], [], false⟩
def LF : SV → Option az := fun _ => some kn
def Py (a0 : Int) (a1 : (aa × (aa × aa))) (a2 : (aa × (aa × aa))) : OT iy.Y :=
  let z0 : aa × PUnit := (a1.snd.snd, ())
  let z1 : aa × PUnit := (a2.snd.snd, ())
  let z2 : Nat := pS a0
  let z3 : aa := aN z2 a2.snd.snd a2.snd.snd
  let z4 : aa := aN z2 a1.snd.snd a1.snd.snd
  let z5 : aa := aN z2 z3 a2.snd.snd
  let z6 : aa := aN z2 z4 a1.snd.snd
  let z7 : aa := aN z2 a2.fst z4
  let z8 : aa := aN z2 a1.fst z3
  let z9 : aa := aN z2 a2.snd.fst z6
  let z10 : aa := aN z2 a1.snd.fst z5
  let z11 : aa := eM z2 z7 z8
  let z12 : aa := eM z2 z9 z10
  let z13 : aa := { w0 := 0, w1 := 0, w2 := 0, w3 := 0 }
  let z14 : aa × PUnit := (z11, ())
  let z15 : aa := aN z2 z11 z11
  let z16 : aa := aN z2 z12 z12
  let z17 : aa := aN z2 z15 z11
  let z18 : aa × PUnit := (z17, ())
  let z19 : aa := aN z2 z8 z15
  let z20 : aa := eM z2 z16 z17
  let z21 : aa := iV z2 z19 (2 : UInt64)
  let z22 : aa := eM z2 z20 z21
  let z23 : aa := eM z2 z19 z22
  let z24 : aa := aN z2 z12 z23
  let z25 : aa := aN z2 z10 z17
  let z26 : aa := aN z2 a1.snd.snd a2.snd.snd
  (.br (cj a1.snd.snd)
  (.ok ⟨kn, ((a2, ()), ())⟩)
  (.br (cj a2.snd.snd)
    (.ok ⟨kn, ((a1, ()), ())⟩)
    (gd [bp ((a0, a1.snd.snd, z0), ()), bp ((a0, a2.snd.snd, z1), ()), bp ((a0, a1.fst, z3, ()), ()), bp ((a0, a2.fst, z4, ()), ()), bp ((a0, z3, z1), ()), bp ((a0, a1.snd.fst, z5, ()), ()), bp ((a0, z4, z0), ()), bp ((a0, a2.snd.fst, z6, ()), ()), gr ((a0, z7, z8, ()), ()), gr ((a0, z9, z10, ()), ())] (.br (z11.w0 == (0 : UInt64) && (z11.w1 == (0 : UInt64) && (z11.w2 == (0 : UInt64) && (z11.w3 == (0 : UInt64) && true))))
      (.br (z12.w0 == (0 : UInt64) && (z12.w1 == (0 : UInt64) && (z12.w2 == (0 : UInt64) && (z12.w3 == (0 : UInt64) && true))))
        (gd [mK ((a0, a1, ()), ())] (.ok ⟨kn, ((Pg z2 a1, ()), ())⟩))
        (.ok ⟨kn, (((z13, z13, z13), ()), ())⟩))
      (gd [bp ((a0, z11, z14), ()), bp ((a0, z15, z14), ()), bp ((a0, z8, z15, ()), ()), bp ((a0, z12, z12, ()), ()), gr ((a0, z16, z18), ()), fF ((a0, z19, (2 : UInt64), ()), ()), gr ((a0, z20, z21, ()), ()), gr ((a0, z19, z22, ()), ()), bp ((a0, z12, z23, ()), ()), bp ((a0, z10, z18), ()), gr ((a0, z24, z25, ()), ()), bp ((a0, a1.snd.snd, z1), ()), bp ((a0, z11, z26, ()), ())] (.ok ⟨kn, (((z22, eM z2 z24 z25, aN z2 z11 z26), ()), ())⟩))))))
theorem ajO (x : Fu) (Q : iy.Y → Prop) : wpf te o3 ay 1000 Try.f50 (iy.inp.inj x).tm (iy.inp.inj x).hp (fnK iy LF Q) (fun _ _ => False) = (Py (x.1.1) (x.1.2.1) (x.1.2.2.1)).wpR Q := by kernel_rfl
theorem Wl (pre : Fu → Bool) (F : Fu → OT iy.Y) (hF : ∀ (x : Fu) oy, pre x = true → (F x).run = some oy → (Py (x.1.1) (x.1.2.1) (x.1.2.2.1)).run = some oy) : ab Try.prog 50 (iy.aK pre F) :=
  aE au o0 IC (f := 50) (fn := Try.f50) (c := al Try.f50) (by kernel_rfl) (by kernel_rfl) (by kernel_rfl) (S := iy) (k := 0) (by kernel_rfl) (fun R hR => af) (n := 1000) (sel := LF) (fun v o h => by cases h; rfl) (pre := pre) (F := F) (T := fun x => Py (x.1.1) (x.1.2.1) (x.1.2.2.1)) (fun x Q => ajO x Q) hF
def amO (p : Nat) (u s h r Z1 Z2 : aa) : zx :=
  let hh := aN p h h
  let hhh := aN p hh h
  let c := aN p u hh
  let x := eM p (eM p (aN p r r) hhh) (iV p c 2)
  (x, eM p (aN p r (eM p c x)) (aN p s hhh), aN p h (aN p Z1 Z2))
def amD (p : Nat) (w : zx) (u s h r Z2 : aa) : zx := cond (cj h) (cond (cj r) (Pg p w) (⟨0, 0, 0, 0⟩, ⟨0, 0, 0, 0⟩, ⟨0, 0, 0, 0⟩)) (amO p u s h r w.2.2 Z2)
def al5 (p : Nat) (w v : zx) : zx :=
  let pz := aN p w.2.2 w.2.2
  let qz := aN p v.2.2 v.2.2
  let u := aN p w.1 qz
  let s := aN p w.2.1 (aN p qz v.2.2)
  amD p w u s (eM p (aN p v.1 pz) u) (eM p (aN p v.2.1 (aN p pz w.2.2)) s) v.2.2
def Md (p : Nat) (w v : zx) : zx := cond (cj w.2.2) v (cond (cj v.2.2) w (al5 p w v))
def ub (x : Fu) : Bool := aj x.1.1
def acd (x : Fu) : OT iy.Y := .ok ⟨kn, ((Md (pS x.1.1) x.1.2.1 x.1.2.2.1, ()), ())⟩
theorem afl : ab Try.prog 50 (iy.aK ub acd) := Wl _ _ fun x oy hp ho => by
  rw [← ho]
  clear ho
  obtain ⟨⟨c, ⟨X, Y, Z⟩, ⟨X2, Y2, Z2⟩, ⟨⟩⟩, ⟨⟩⟩ := x
  have hs : aj c = true := hp
  show _ = (OT.ok ⟨kn, ((Md (pS c) (X, Y, Z) (X2, Y2, Z2), ()), ())⟩ : OT iy.Y).run
  unfold Md
  dsimp only
  cases hz : cj Z
  · refine (OT.ax hz).trans ?_
    cases hz2 : cj Z2
    · refine (OT.ax rfl).trans ((ai ?_).trans ?_)
      · simp only [List.all_cons, List.all_nil, Bool.and_true, Bool.and_eq_true]
        exact ⟨hs, hs, hs, hs, hs, hs, hs, hs, hs, hs⟩
      · unfold al5 amD
        dsimp only [cond_false]
        cases hh : cj (eM (pS c) (aN (pS c) X2 (aN (pS c) Z Z)) (aN (pS c) X (aN (pS c) Z2 Z2)))
        · refine (OT.ax hh).trans ((ai ?_).trans rfl)
          simp only [List.all_cons, List.all_nil, Bool.and_true, Bool.and_eq_true]
          exact ⟨hs, hs, hs, hs, hs, hs, hs, hs, hs, hs, hs, hs, hs⟩
        · refine (OT.ao hh).trans ?_
          dsimp only [cond_true]
          cases hr : cj (eM (pS c) (aN (pS c) Y2 (aN (pS c) (aN (pS c) Z Z) Z)) (aN (pS c) Y (aN (pS c) (aN (pS c) Z2 Z2) Z2)))
          · exact OT.ax hr
          · refine (OT.ao hr).trans ((ai ?_).trans rfl)
            simp only [List.all_cons, List.all_nil, Bool.and_true]
            exact hs
    · exact OT.ao rfl
  · exact OT.ao hz
def wH : cK := (iy.aK ub acd)
theorem Px : ab Try.prog 50 wH := afl
theorem Pw : aL wH := aD
def DC : Env := aA 50 wH o3
theorem xu : aW Try.prog DC := ag Px o0
theorem yG : av DC := ac Pw qP
theorem Qi : bm Try.prog te DC := aP follows au xu yG
def na : ap := ⟨[.val false .int, .val true (.prod .elem (.prod .elem .bool)), .val true (.prod .elem (.prod .elem .bool))], [], true, 0, false⟩
abbrev Wk : Type := ((Int) × ((aa × (aa × Bool))) × ((aa × (aa × Bool))) × Unit) × (Unit)
def wG : az := ⟨[.val true (.prod .elem (.prod .elem .bool))], [], false⟩
def Tk : SV → Option az := fun _ => some wG
def acb (a0 : Int) (a1 : (aa × (aa × Bool))) (a2 : (aa × (aa × Bool))) : OT na.Y :=
  let z0 : aa := { w0 := 0, w1 := 0, w2 := 0, w3 := 0 }
  let z1 : aa × aa × Bool := (z0, z0, true)
  let z2 : aa × aa × aa := eu a1
  let z3 : aa × aa × aa := eu a2
  let z4 : Nat := pS a0
  let z5 : aa × aa × aa := Md z4 z2 z3
  (.br (!onB a0 a1)
  (.ok ⟨wG, ((z1, ()), ())⟩)
  (.br (!onB a0 a2)
    (.ok ⟨wG, ((z1, ()), ())⟩)
    (gd [ub ((a0, z2, z3, ()), ()), jM ((a0, z5, ()), ())] (.ok ⟨wG, ((eF z4 z5, ()), ())⟩))))
theorem alE (x : Wk) (Q : na.Y → Prop) : wpf te DC ay 1000 Try.f25 (na.inp.inj x).tm (na.inp.inj x).hp (fnK na Tk Q) (fun _ _ => False) = (acb (x.1.1) (x.1.2.1) (x.1.2.2.1)).wpR Q := by kernel_rfl
theorem aca (pre : Wk → Bool) (F : Wk → OT na.Y) (hF : ∀ (x : Wk) oy, pre x = true → (F x).run = some oy → (acb (x.1.1) (x.1.2.1) (x.1.2.2.1)).run = some oy) : ab Try.prog 25 (na.aK pre F) :=
  aE au xu Qi (f := 25) (fn := Try.f25) (c := al Try.f25) (by kernel_rfl) (by kernel_rfl) (by kernel_rfl) (S := na) (k := 0) (by kernel_rfl) (fun R hR => af) (n := 1000) (sel := Tk) (fun v o h => by cases h; rfl) (pre := pre) (F := F) (T := fun x => acb (x.1.1) (x.1.2.1) (x.1.2.2.1)) (fun x Q => alE x Q) hF
def dY (c : Int) (P Q : Pt) : Pt := cond (onB c P) (cond (onB c Q) (eF (pS c) (Md (pS c) (eu P) (eu Q))) aB) aB
def Tl (_ : Wk) : Bool := true
def agn (x : Wk) : OT na.Y := .ok ⟨wG, ((dY x.1.1 x.1.2.1 x.1.2.2.1, ()), ())⟩
theorem ajN : ab Try.prog 25 (na.aK Tl agn) := aca _ _ fun x oy _ ho => by
  rw [← ho]
  clear ho
  obtain ⟨⟨c, P, Q, ⟨⟩⟩, ⟨⟩⟩ := x
  show _ = (OT.ok ⟨wG, ((dY c P Q, ()), ())⟩ : OT na.Y).run
  rcases (Bool.eq_false_or_eq_true (onB c P)).symm with h1 | h1
  · have e : dY c P Q = aB := by unfold dY; rw [h1]; rfl
    rw [e]
    exact OT.ao (b := !onB c P) (by rw [h1]; rfl)
  · have hs := mn h1
    refine (OT.ax (b := !onB c P) (by rw [h1]; rfl)).trans ?_
    rcases (Bool.eq_false_or_eq_true (onB c Q)).symm with h2 | h2
    · have e : dY c P Q = aB := by unfold dY; rw [h1, h2]; rfl
      rw [e]
      exact OT.ao (b := !onB c Q) (by rw [h2]; rfl)
    · have e : dY c P Q = eF (pS c) (Md (pS c) (eu P) (eu Q)) := by unfold dY; rw [h1, h2]; rfl
      rw [e]
      refine (OT.ax (b := !onB c Q) (by rw [h2]; rfl)).trans ((ai ?_).trans rfl)
      simp only [List.all_cons, List.all_nil, Bool.and_true, Bool.and_eq_true]
      exact ⟨hs, hs⟩
def Ck : cK := (na.aK Tl agn)
theorem Wj : ab Try.prog 25 Ck := ajN
theorem Wi : aL Ck := aD
def FV : Env := aA 25 Ck DC
theorem uW : aW Try.prog FV := ag Wj xu
theorem DB : av FV := ac Wi yG
theorem FT : bm Try.prog te FV := aP follows au uW DB
def ix : ap := ⟨[.val false .int, .val true .elem, .val true (.prod .elem (.prod .elem .bool))], [], true, 0, false⟩
abbrev Fm : Type := ((Int) × (aa) × ((aa × (aa × Bool))) × Unit) × (Unit)
def tY : Shape := ⟨39, [(4, .ptr 0 0 0), (5, .ptr 1 0 0), (6, .ptr 2 0 0), (7, .val false .int), (8, .ptr 3 0 0), (9, .val false .int)], [(0, .row .u64), (1, .cells [.val false .u64, .val false .u64, .val false .u64, .val false .u64, .val false .u64, .val false .u64, .val false .u64, .val false .u64, .val false .bool]), (2, .cells [.val false .u64, .val false .u64, .val false .u64, .val false .u64, .val false .u64, .val false .u64, .val false .u64, .val false .u64, .val false .bool]), (3, .cells [.val false .u64, .val false .u64, .val false .u64, .val false .u64, .val false .u64, .val false .u64, .val false .u64, .val false .u64, .val false .u64, .val false .u64, .val false .u64, .val false .u64])], 0, true⟩
abbrev ct : Type := ((Unit) × (Unit) × (Unit) × (Int) × (Unit) × (Int) × Unit) × ((List (UInt64)) × ((UInt64) × (UInt64) × (UInt64) × (UInt64) × (UInt64) × (UInt64) × (UInt64) × (UInt64) × (Bool) × Unit) × ((UInt64) × (UInt64) × (UInt64) × (UInt64) × (UInt64) × (UInt64) × (UInt64) × (UInt64) × (Bool) × Unit) × ((UInt64) × (UInt64) × (UInt64) × (UInt64) × (UInt64) × (UInt64) × (UInt64) × (UInt64) × (UInt64) × (UInt64) × (UInt64) × (UInt64) × Unit) × Unit)
def pY : Shape := ⟨39, [(6, .ptr 0 0 0), (7, .val false .int), (8, .ptr 1 0 0)], [(0, .cells [.val false .u64, .val false .u64, .val false .u64, .val false .u64, .val false .u64, .val false .u64, .val false .u64, .val false .u64, .val false .bool]), (1, .cells [.val false .u64, .val false .u64, .val false .u64, .val false .u64, .val false .u64, .val false .u64, .val false .u64, .val false .u64, .val false .u64, .val false .u64, .val false .u64, .val false .u64])], 0, true⟩
abbrev jN : Type := ((Unit) × (Int) × (Unit) × Unit) × (((UInt64) × (UInt64) × (UInt64) × (UInt64) × (UInt64) × (UInt64) × (UInt64) × (UInt64) × (Bool) × Unit) × ((UInt64) × (UInt64) × (UInt64) × (UInt64) × (UInt64) × (UInt64) × (UInt64) × (UInt64) × (UInt64) × (UInt64) × (UInt64) × (UInt64) × Unit) × Unit)
def S8 : SE → Option Shape := ku [(0, pY)] none
def aff (a7 : Int) (a9 : Int) (c0 : List (UInt64)) (c1_0 : UInt64) (c1_1 : UInt64) (c1_2 : UInt64) (c1_3 : UInt64) (c1_4 : UInt64) (c1_5 : UInt64) (c1_6 : UInt64) (c1_7 : UInt64) (c1_8 : Bool) (c2_0 : UInt64) (c2_1 : UInt64) (c2_2 : UInt64) (c2_3 : UInt64) (c2_4 : UInt64) (c2_5 : UInt64) (c2_6 : UInt64) (c2_7 : UInt64) (c2_8 : Bool) (c3_0 : UInt64) (c3_1 : UInt64) (c3_2 : UInt64) (c3_3 : UInt64) (c3_4 : UInt64) (c3_5 : UInt64) (c3_6 : UInt64) (c3_7 : UInt64) (c3_8 : UInt64) (c3_9 : UInt64) (c3_10 : UInt64) (c3_11 : UInt64) : OT (Sum ct aQ) :=
  let z0 : aa × aa × aa := ({ w0 := c3_0, w1 := c3_1, w2 := c3_2, w3 := c3_3 }, { w0 := c3_4, w1 := c3_5, w2 := c3_6, w3 := c3_7 }, { w0 := c3_8, w1 := c3_9, w2 := c3_10, w3 := c3_11 })
  let z1 : Nat := pS a7
  let z2 : aa × aa × aa := Pg z1 z0
  let z3 : aa × aa × aa := eu ({ w0 := c1_0, w1 := c1_1, w2 := c1_2, w3 := c1_3 }, { w0 := c1_4, w1 := c1_5, w2 := c1_6, w3 := c1_7 }, c1_8)
  let z4 : Bool := inR (a9 - (1 : Int))
  let z5 : aa × aa × aa := Md z1 z2 z3
  let z6 := z5.fst
  let z7 := z5.snd
  let z8 := z7.fst
  let z9 := z7.snd
  let z10 := z2.fst
  let z11 := z2.snd
  let z12 := z11.fst
  let z13 := z11.snd
  (.br (decide ((0 : Int) ≤ a9))
  (gd [mK ((a7, z0, ()), ()), decide (4 ≤ List.length c0)] (.br (nd { w0 := List.getD c0 0 0, w1 := List.getD c0 1 0, w2 := List.getD c0 2 0, w3 := List.getD c0 3 0 } a9)
    (gd [ub ((a7, z2, z3, ()), ()), z4] (.ok (.inl (((), ((), ((), (a7, ((), (a9 - (1 : Int), ())))))), (c0, ((c1_0, (c1_1, (c1_2, (c1_3, (c1_4, (c1_5, (c1_6, (c1_7, (c1_8, ()))))))))), ((c2_0, (c2_1, (c2_2, (c2_3, (c2_4, (c2_5, (c2_6, (c2_7, (c2_8, ()))))))))), ((z6.w0, (z6.w1, (z6.w2, (z6.w3, (z8.w0, (z8.w1, (z8.w2, (z8.w3, (z9.w0, (z9.w1, (z9.w2, (z9.w3, ())))))))))))), ()))))))))
    (gd [z4] (.ok (.inl (((), ((), ((), (a7, ((), (a9 - (1 : Int), ())))))), (c0, ((c1_0, (c1_1, (c1_2, (c1_3, (c1_4, (c1_5, (c1_6, (c1_7, (c1_8, ()))))))))), ((c2_0, (c2_1, (c2_2, (c2_3, (c2_4, (c2_5, (c2_6, (c2_7, (c2_8, ()))))))))), ((z10.w0, (z10.w1, (z10.w2, (z10.w3, (z12.w0, (z12.w1, (z12.w2, (z12.w3, (z13.w0, (z13.w1, (z13.w2, (z13.w3, ())))))))))))), ()))))))))))
  (.ok (.inr ⟨(.exit 0, pY), (((), (a7, ((), ()))), ((c2_0, (c2_1, (c2_2, (c2_3, (c2_4, (c2_5, (c2_6, (c2_7, (c2_8, ()))))))))), ((c3_0, (c3_1, (c3_2, (c3_3, (c3_4, (c3_5, (c3_6, (c3_7, (c3_8, (c3_9, (c3_10, (c3_11, ())))))))))))), ())))⟩)))
def tZ (s : ct) : OT (Sum ct aQ) := aff (s.1.2.2.2.1) (s.1.2.2.2.2.2.1) (s.2.1) (s.2.2.1.1) (s.2.2.1.2.1) (s.2.2.1.2.2.1) (s.2.2.1.2.2.2.1) (s.2.2.1.2.2.2.2.1) (s.2.2.1.2.2.2.2.2.1) (s.2.2.1.2.2.2.2.2.2.1) (s.2.2.1.2.2.2.2.2.2.2.1) (s.2.2.1.2.2.2.2.2.2.2.2.1) (s.2.2.2.1.1) (s.2.2.2.1.2.1) (s.2.2.2.1.2.2.1) (s.2.2.2.1.2.2.2.1) (s.2.2.2.1.2.2.2.2.1) (s.2.2.2.1.2.2.2.2.2.1) (s.2.2.2.1.2.2.2.2.2.2.1) (s.2.2.2.1.2.2.2.2.2.2.2.1) (s.2.2.2.1.2.2.2.2.2.2.2.2.1) (s.2.2.2.2.1.1) (s.2.2.2.2.1.2.1) (s.2.2.2.2.1.2.2.1) (s.2.2.2.2.1.2.2.2.1) (s.2.2.2.2.1.2.2.2.2.1) (s.2.2.2.2.1.2.2.2.2.2.1) (s.2.2.2.2.1.2.2.2.2.2.2.1) (s.2.2.2.2.1.2.2.2.2.2.2.2.1) (s.2.2.2.2.1.2.2.2.2.2.2.2.2.1) (s.2.2.2.2.1.2.2.2.2.2.2.2.2.2.1) (s.2.2.2.2.1.2.2.2.2.2.2.2.2.2.2.1) (s.2.2.2.2.1.2.2.2.2.2.2.2.2.2.2.2.1)
theorem afc (s : ct) (Q : Sum ct aQ → Prop) : wps te FV ay 1000 (bJ (al Try.f15) 0) (tY.inj s) (cW tY S8 (Q : Sum tY.T aQ → Prop)) = (tZ s).wpR Q := by kernel_rfl
def zp (g0_0 : ct → jN) (s : ct) : OT aQ := (.ok ⟨(.exit 0, pY), g0_0 s⟩)
def pX : az := ⟨[.val true (.prod .elem (.prod .elem .bool))], [], false⟩
def Lv : SV → Option az := fun _ => some pX
def Pm (ok0 : ct → Bool) (g0_0 : ct → jN) (a0 : Int) (a1 : aa) (a2 : (aa × (aa × Bool))) : OT ix.Y :=
  let z0 : aa := { w0 := 0, w1 := 0, w2 := 0, w3 := 0 }
  let z1 : Int := qv a0 (1 : Int)
  let z2 : PUnit × PUnit × PUnit × Int × PUnit × Int × PUnit := ((), (), (), a0, (), (255 : Int), ())
  let z3 : aa := nk (pS z1) a1 z0
  let z4 : (UInt64 × UInt64 × UInt64 × UInt64 × UInt64 × UInt64 × UInt64 × UInt64 × Bool × PUnit) × (UInt64 × UInt64 × UInt64 × UInt64 × UInt64 × UInt64 × UInt64 × UInt64 × Bool × PUnit) × (UInt64 × UInt64 × UInt64 × UInt64 × UInt64 × UInt64 × UInt64 × UInt64 × UInt64 × UInt64 × UInt64 × UInt64 × PUnit) × PUnit := ((a2.fst.w0, a2.fst.w1, a2.fst.w2, a2.fst.w3, a2.snd.fst.w0, a2.snd.fst.w1, a2.snd.fst.w2, a2.snd.fst.w3, a2.snd.snd, ()), ((0 : UInt64), (0 : UInt64), (0 : UInt64), (0 : UInt64), (0 : UInt64), (0 : UInt64), (0 : UInt64), (0 : UInt64), false, ()), ((0 : UInt64), (0 : UInt64), (0 : UInt64), (0 : UInt64), (0 : UInt64), (0 : UInt64), (0 : UInt64), (0 : UInt64), (0 : UInt64), (0 : UInt64), (0 : UInt64), (0 : UInt64), ()), ())
  let z5 : (PUnit × PUnit × PUnit × Int × PUnit × Int × PUnit) × List UInt64 × (UInt64 × UInt64 × UInt64 × UInt64 × UInt64 × UInt64 × UInt64 × UInt64 × Bool × PUnit) × (UInt64 × UInt64 × UInt64 × UInt64 × UInt64 × UInt64 × UInt64 × UInt64 × Bool × PUnit) × (UInt64 × UInt64 × UInt64 × UInt64 × UInt64 × UInt64 × UInt64 × UInt64 × UInt64 × UInt64 × UInt64 × UInt64 × PUnit) × PUnit := (z2, [z3.w0, z3.w1, z3.w2, z3.w3], z4)
  let z6 : (PUnit × Int × PUnit × PUnit) × (UInt64 × UInt64 × UInt64 × UInt64 × UInt64 × UInt64 × UInt64 × UInt64 × Bool × PUnit) × (UInt64 × UInt64 × UInt64 × UInt64 × UInt64 × UInt64 × UInt64 × UInt64 × UInt64 × UInt64 × UInt64 × UInt64 × PUnit) × PUnit := g0_0 z5
  let z7 := z6.fst.snd.fst
  let z8 := z6.snd.snd.fst
  let z9 := z8.snd
  let z10 := z9.snd
  let z11 := z10.snd
  let z12 := z11.snd
  let z13 := z12.snd
  let z14 := z13.snd
  let z15 := z14.snd
  let z16 := z15.snd
  let z17 := z16.snd
  let z18 := z17.snd
  let z19 : aa × aa × aa := ({ w0 := z8.fst, w1 := z9.fst, w2 := z10.fst, w3 := z11.fst }, { w0 := z12.fst, w1 := z13.fst, w2 := z14.fst, w3 := z15.fst }, { w0 := z16.fst, w1 := z17.fst, w2 := z18.fst, w3 := z18.snd.fst })
  let z20 : (PUnit × PUnit × PUnit × Int × PUnit × Int × PUnit) × List UInt64 × (UInt64 × UInt64 × UInt64 × UInt64 × UInt64 × UInt64 × UInt64 × UInt64 × Bool × PUnit) × (UInt64 × UInt64 × UInt64 × UInt64 × UInt64 × UInt64 × UInt64 × UInt64 × Bool × PUnit) × (UInt64 × UInt64 × UInt64 × UInt64 × UInt64 × UInt64 × UInt64 × UInt64 × UInt64 × UInt64 × UInt64 × UInt64 × PUnit) × PUnit := (z2, [(0 : UInt64), (0 : UInt64), (0 : UInt64), (0 : UInt64)], z4)
  let z21 : (PUnit × Int × PUnit × PUnit) × (UInt64 × UInt64 × UInt64 × UInt64 × UInt64 × UInt64 × UInt64 × UInt64 × Bool × PUnit) × (UInt64 × UInt64 × UInt64 × UInt64 × UInt64 × UInt64 × UInt64 × UInt64 × UInt64 × UInt64 × UInt64 × UInt64 × PUnit) × PUnit := g0_0 z20
  let z22 := z21.fst.snd.fst
  let z23 := z21.snd.snd.fst
  let z24 := z23.snd
  let z25 := z24.snd
  let z26 := z25.snd
  let z27 := z26.snd
  let z28 := z27.snd
  let z29 := z28.snd
  let z30 := z29.snd
  let z31 := z30.snd
  let z32 := z31.snd
  let z33 := z32.snd
  let z34 : aa × aa × aa := ({ w0 := z23.fst, w1 := z24.fst, w2 := z25.fst, w3 := z26.fst }, { w0 := z27.fst, w1 := z28.fst, w2 := z29.fst, w3 := z30.fst }, { w0 := z31.fst, w1 := z32.fst, w2 := z33.fst, w3 := z33.snd.fst })
  (.br (!onB a0 a2)
  (.ok ⟨pX, (((z0, z0, true), ()), ())⟩)
  (.br (aj z1)
    (gd [ok0 z5, jM ((z7, z19, ()), ())] (.ok ⟨pX, ((eF (pS z7) z19, ()), ())⟩))
    (gd [ok0 z20, jM ((z22, z34, ()), ())] (.ok ⟨pX, ((eF (pS z22) z34, ()), ())⟩))))
theorem ajI (ok0 : ct → Bool) (g0_0 : ct → jN) (x : Fm) (Q : ix.Y → Prop) : wpf te FV (bx 0 (dw tY 0 ok0 (zp g0_0)) ay) 1000 Try.f15 (ix.inp.inj x).tm (ix.inp.inj x).hp (fnK ix Lv Q) (fun _ _ => False) = (Pm ok0 g0_0 (x.1.1) (x.1.2.1) (x.1.2.2.1)).wpR Q := by kernel_rfl
theorem V6 (ok0 : ct → Bool) (g0_0 : ct → jN) (h0 : ∀ s : ct, ok0 s = true → ∃ m e, aq (tZ) m s = some e ∧ (zp g0_0 s).run = some e) (pre : Fm → Bool) (F : Fm → OT ix.Y) (hF : ∀ (x : Fm) oy, pre x = true → (F x).run = some oy → (Pm ok0 g0_0 (x.1.1) (x.1.2.1) (x.1.2.2.1)).run = some oy) : ab Try.prog 15 (ix.aK pre F) :=
  aE au uW FT (f := 15) (fn := Try.f15) (c := al Try.f15) (by kernel_rfl) (by kernel_rfl) (by kernel_rfl) (S := ix) (k := 0) (by kernel_rfl) (fun R hR => (aI (c := (al Try.f15)) (by kernel_rfl) (id := 0) (by kernel_rfl) (bA au uW FT (sh := tY) hR (xs := S8) (aH (by kernel_rfl) (by kernel_rfl) hR) aX af (n := 1000) (T := tZ) (fun s Q => afc s Q) (ok := ok0) (f := zp g0_0) h0) af)) (n := 1000) (sel := Lv) (fun v o h => by cases h; rfl) (pre := pre) (F := F) (T := fun x => Pm ok0 g0_0 (x.1.1) (x.1.2.1) (x.1.2.2.1)) (fun x Q => ajI ok0 g0_0 x Q) hF
abbrev C9 : Type := UInt64 × UInt64 × UInt64 × UInt64 × UInt64 × UInt64 × UInt64 × UInt64 × Bool × Unit
abbrev C12 : Type := UInt64 × UInt64 × UInt64 × UInt64 × UInt64 × UInt64 × UInt64 × UInt64 × UInt64 × UInt64 × UInt64 × UInt64 × Unit
def kE (t : C9) : Pt := (⟨t.1, t.2.1, t.2.2.1, t.2.2.2.1⟩, ⟨t.2.2.2.2.1, t.2.2.2.2.2.1, t.2.2.2.2.2.2.1, t.2.2.2.2.2.2.2.1⟩, t.2.2.2.2.2.2.2.2.1)
def alD (t : C12) : zx := (⟨t.1, t.2.1, t.2.2.1, t.2.2.2.1⟩, ⟨t.2.2.2.2.1, t.2.2.2.2.2.1, t.2.2.2.2.2.2.1, t.2.2.2.2.2.2.2.1⟩, ⟨t.2.2.2.2.2.2.2.2.1, t.2.2.2.2.2.2.2.2.2.1, t.2.2.2.2.2.2.2.2.2.2.1, t.2.2.2.2.2.2.2.2.2.2.2.1⟩)
def ajj (w : zx) : C12 := (w.1.w0, w.1.w1, w.1.w2, w.1.w3, w.2.1.w0, w.2.1.w1, w.2.1.w2, w.2.1.w3, w.2.2.w0, w.2.2.w1, w.2.2.w2, w.2.2.w3, ())
def gH (p : Nat) (k : aa) (P : zx) (n : Nat) (w : zx) : zx := cond (nd k (255 - (n : Int))) (Md p (Pg p w) P) (Pg p w)
def Cc (s : ct) : Bool := aj s.1.2.2.2.1 && decide (s.1.2.2.2.2.2.1 = 255 ∧ s.2.1.length = 4)
def S9 (s : ct) : jN := (((), s.1.2.2.2.1, (), ()), (s.2.2.2.1, ajj (upto (gH (pS s.1.2.2.2.1) (elemOf s.2.1) (eu (kE s.2.2.1))) (alD s.2.2.2.2.1) 256), ()))
theorem afe : ∀ s : ct, Cc s = true → ∃ m e, aq tZ m s = some e ∧ (zp S9 s).run = some e := by
  rintro ⟨⟨⟨⟩, ⟨⟩, ⟨⟩, c, ⟨⟩, i, ⟨⟩⟩, ⟨l, ⟨p0, p1, p2, p3, p4, p5, p6, p7, p8, ⟨⟩⟩, ⟨q0, q1, q2, q3, q4, q5, q6, q7, q8, ⟨⟩⟩, ⟨w0, w1, w2, w3, w4, w5, w6, w7, w8, w9, w10, w11, ⟨⟩⟩, ⟨⟩⟩⟩ h
  simp only [Cc, Bool.and_eq_true, decide_eq_true_eq] at h
  obtain ⟨hs, rfl, hl⟩ := h
  obtain ⟨k, rfl⟩ : ∃ a, l = lst a := ⟨elemOf l, (aZ hl).symm⟩
  have := (bI (T := tZ) (fun n w => ((((), (), (), c, (), 255 - (n : Int), ()), (lst k, (p0, p1, p2, p3, p4, p5, p6, p7, p8, ()), (q0, q1, q2, q3, q4, q5, q6, q7, q8, ()), ajj w, ())) : ct)) (gH (pS c) k (eu (kE (p0, p1, p2, p3, p4, p5, p6, p7, p8, ()))))
    (fun w => (⟨(.exit 0, pY), (((), c, (), ()), ((q0, q1, q2, q3, q4, q5, q6, q7, q8, ()), ajj w, ()))⟩ : aQ)) 256 (alD (w0, w1, w2, w3, w4, w5, w6, w7, w8, w9, w10, w11, ())) (fun _ _ => True) trivial (fun n w hn _ => ⟨?_, trivial⟩) (fun w _ => ?_)).1
  · obtain ⟨m, hm⟩ := this
    exact ⟨m, _, hm, rfl⟩
  · have e2 : (255 : Int) - (n : Int) - 1 = 255 - ((n + 1 : Nat) : Int) := by omega
    refine (OT.ao (decide_eq_true (by dsimp only; omega))).trans ((ai ?_).trans ?_)
    · simp only [List.all_cons, List.all_nil, Bool.and_true, Bool.and_eq_true]
      exact ⟨hs, rfl⟩
    · rcases (Bool.eq_false_or_eq_true (nd k (255 - (n : Int)))).symm with hb | hb
      · have e : gH (pS c) k (eu (kE (p0, p1, p2, p3, p4, p5, p6, p7, p8, ()))) n w = Pg (pS c) w := by unfold gH; rw [hb]; rfl
        rw [e, ← e2]
        refine (OT.ax hb).trans ((ai ?_).trans rfl)
        simp only [List.all_cons, List.all_nil, Bool.and_true]
        exact bC (by omega)
      · have e : gH (pS c) k (eu (kE (p0, p1, p2, p3, p4, p5, p6, p7, p8, ()))) n w = Md (pS c) (Pg (pS c) w) (eu (kE (p0, p1, p2, p3, p4, p5, p6, p7, p8, ()))) := by unfold gH; rw [hb]; rfl
        rw [e, ← e2]
        refine (OT.ao hb).trans ((ai ?_).trans rfl)
        simp only [List.all_cons, List.all_nil, Bool.and_true, Bool.and_eq_true]
        exact ⟨hs, bC (by omega)⟩
  · exact OT.ax (decide_eq_false (by dsimp only; omega))
def WW : zx := (⟨0, 0, 0, 0⟩, ⟨0, 0, 0, 0⟩, ⟨0, 0, 0, 0⟩)
def amL (p : Nat) (k : aa) (P : zx) : zx := upto (gH p k P) WW 256
def qt (c : Int) (k : aa) : aa := nk (pS (qv c 1)) k ⟨0, 0, 0, 0⟩
def ni (c : Int) (k : aa) (P : Pt) : Pt := cond (onB c P) (eF (pS c) (amL (pS c) (qt c k) (eu P))) aB
theorem fv {c : Int} (h : aj c = true) : aj (qv c 1) = true := by
  rcases cl h with rfl | rfl | rfl | rfl <;> decide +kernel
def Lw (_ : Fm) : Bool := true
def abV (x : Fm) : OT ix.Y := .ok ⟨pX, ((ni x.1.1 x.1.2.1 x.1.2.2.1, ()), ())⟩
theorem afd : ab Try.prog 15 (ix.aK Lw abV) := V6 Cc S9 afe _ _ fun x oy _ ho => by
  rw [← ho]
  clear ho
  obtain ⟨⟨c, k, P, ⟨⟩⟩, ⟨⟩⟩ := x
  show _ = (OT.ok ⟨pX, ((ni c k P, ()), ())⟩ : OT ix.Y).run
  rcases (Bool.eq_false_or_eq_true (onB c P)).symm with h1 | h1
  · have e : ni c k P = aB := by unfold ni; rw [h1]; rfl
    rw [e]
    exact OT.ao (b := !onB c P) (by rw [h1]; rfl)
  · have hs := mn h1
    have e : ni c k P = eF (pS c) (amL (pS c) (qt c k) (eu P)) := by unfold ni; rw [h1]; rfl
    rw [e]
    refine (OT.ax (b := !onB c P) (by rw [h1]; rfl)).trans ((OT.ao (fv hs)).trans ((ai ?_).trans ?_))
    · simp only [List.all_cons, List.all_nil, Bool.and_true, Bool.and_eq_true]
      refine ⟨?_, hs⟩
      refine (Bool.and_eq_true _ _).mpr ⟨hs, ?_⟩
      exact decide_eq_true (p := (255 : Int) = 255 ∧ (lst (qt c k)).length = 4) ⟨rfl, rfl⟩
    · rfl
def wC : cK := (ix.aK Lw abV)
theorem Pl : ab Try.prog 15 wC := afd
theorem Pk : aL wC := aD
def Dv : Env := aA 15 wC FV
theorem xq : aW Try.prog Dv := ag Pl uW
theorem yE : av Dv := ac Pk DB
theorem Qg : bm Try.prog te Dv := aP follows au xq yE
def fM : ap := ⟨[.val false .int], [], true, 0, false⟩
abbrev xB : Type := ((Int) × Unit) × (Unit)
def iC : az := ⟨[.val true .elem, .val false .int], [], false⟩
def JI : SV → Option az := fun _ => some iC
def NC (a0 : Int) : OT fM.Y :=
  (.br (a0 == (0 : Int))
  (.ok ⟨iC, (({ w0 := 16513537, w1 := 0, w2 := 0, w3 := 0 }, ((0 : Int), ())), ())⟩)
  (.br (a0 == (1 : Int))
    (.ok ⟨iC, (({ w0 := 16521217, w1 := 0, w2 := 0, w3 := 0 }, ((0 : Int), ())), ())⟩)
    (.br (a0 == (2 : Int))
      (.ok ⟨iC, (({ w0 := 11037532056220336129, w1 := 2469829653914515739, w2 := 0, w3 := 4611686018427387904 }, ((0 : Int), ())), ())⟩)
      (.br (a0 == (3 : Int))
        (.ok ⟨iC, (({ w0 := 10108024940646105089, w1 := 2469829653919213789, w2 := 0, w3 := 4611686018427387904 }, ((0 : Int), ())), ())⟩)
        (.ok ⟨iC, (({ w0 := 0, w1 := 0, w2 := 0, w3 := 0 }, ((20 : Int), ())), ())⟩)))))
theorem aip (x : xB) (Q : fM.Y → Prop) : wpf te Dv ay 1000 Try.f85 (fM.inp.inj x).tm (fM.inp.inj x).hp (fnK fM JI Q) (fun _ _ => False) = (NC (x.1.1)).wpR Q := by kernel_rfl
theorem Ue (pre : xB → Bool) (F : xB → OT fM.Y) (hF : ∀ (x : xB) oy, pre x = true → (F x).run = some oy → (NC (x.1.1)).run = some oy) : ab Try.prog 85 (fM.aK pre F) :=
  aE au xq Qg (f := 85) (fn := Try.f85) (c := al Try.f85) (by kernel_rfl) (by kernel_rfl) (by kernel_rfl) (S := fM) (k := 0) (by kernel_rfl) (fun R hR => af) (n := 1000) (sel := JI) (fun v o h => by cases h; rfl) (pre := pre) (F := F) (T := fun x => NC (x.1.1)) (fun x Q => aip x Q) hF
def JJ (_ : xB) : Bool := true
def Zp (x : xB) : OT fM.Y := .br (aj x.1.1) (.ok ⟨iC, (((bM x.1.1.toNat).1, ((0 : Int), ())), ())⟩) (.ok ⟨iC, ((⟨0, 0, 0, 0⟩, ((20 : Int), ())), ())⟩)
theorem Ry : ab Try.prog 85 (fM.aK JJ Zp) := Ue _ _ fun x oy _ ho => by
  rw [← ho]
  clear ho
  obtain ⟨⟨s, ⟨⟩⟩, ⟨⟩⟩ := x
  cases hs : aj s
  · obtain ⟨h0, h1, h2, h3⟩ := o6 hs
    exact (OT.ax h0).trans ((OT.ax h1).trans ((OT.ax h2).trans ((OT.ax h3).trans (OT.ax (b := aj s) hs).symm)))
  · rcases cl hs with h | h | h | h
    all_goals
      have h : s = _ := h
      subst h
      rfl
def vB : cK := (fM.aK JJ Zp)
theorem NB : ab Try.prog 85 vB := Ry
theorem NA : aL vB := aD
def CM : Env := aA 85 vB Dv
theorem wZ : aW Try.prog CM := ag NB xq
theorem yh : av CM := ac NA yE
theorem P5 : bm Try.prog te CM := aP follows au wZ yh
def fR : ap := ⟨[.val false .int], [], true, 0, false⟩
abbrev xE : Type := ((Int) × Unit) × (Unit)
def mi : az := ⟨[.val false .int, .val false .int], [], false⟩
def JZ : SV → Option az := fun _ => some mi
def NW (a0 : Int) : OT fR.Y :=
  (.br (decide (a0 < (0 : Int)))
  (.ok ⟨mi, (((0 : Int), ((20 : Int), ())), ())⟩)
  (.br (decide ((3 : Int) < a0))
    (.ok ⟨mi, (((0 : Int), ((20 : Int), ())), ())⟩)
    (gd [inB a0 4, decide (Int.toNat a0 + 0 < 4)] (.ok ⟨mi, ((List.getD [(9 : Int), (11 : Int), (32 : Int), (32 : Int)] (Int.toNat a0 + 0) (0 : Int), ((0 : Int), ())), ())⟩))))
theorem aiv (x : xE) (Q : fR.Y → Prop) : wpf te CM ay 1000 Try.f106 (fR.inp.inj x).tm (fR.inp.inj x).hp (fnK fR JZ Q) (fun _ _ => False) = (NW (x.1.1)).wpR Q := by kernel_rfl
theorem Uv (pre : xE → Bool) (F : xE → OT fR.Y) (hF : ∀ (x : xE) oy, pre x = true → (F x).run = some oy → (NW (x.1.1)).run = some oy) : ab Try.prog 106 (fR.aK pre F) :=
  aE au wZ P5 (f := 106) (fn := Try.f106) (c := al Try.f106) (by kernel_rfl) (by kernel_rfl) (by kernel_rfl) (S := fR) (k := 0) (by kernel_rfl) (fun R hR => af) (n := 1000) (sel := JZ) (fun v o h => by cases h; rfl) (pre := pre) (F := F) (T := fun x => NW (x.1.1)) (fun x Q => aiv x Q) hF
def J0 (_ : xE) : Bool := true
def ZD (x : xE) : OT fR.Y := .br (aj x.1.1) (.ok ⟨mi, (((bM x.1.1.toNat).2.1, ((0 : Int), ())), ())⟩) (.ok ⟨mi, (((0 : Int), ((20 : Int), ())), ())⟩)
theorem RH : ab Try.prog 106 (fR.aK J0 ZD) := Uv _ _ fun x oy _ ho => by
  rw [← ho]
  clear ho
  obtain ⟨⟨s, ⟨⟩⟩, ⟨⟩⟩ := x
  rcases (Bool.eq_false_or_eq_true (aj s)).symm with hs | hs
  · refine Eq.trans ?_ (OT.ax (b := aj s) hs).symm
    by_cases h0 : s < 0
    · exact OT.ao (decide_eq_true h0)
    · refine (OT.ax (decide_eq_false h0)).trans (OT.ao (decide_eq_true ?_))
      show (3 : Int) < s
      simp only [aj, Bool.and_eq_false_iff, decide_eq_false_iff_not] at hs
      omega
  · rcases cl hs with h | h | h | h
    all_goals
      have h : s = _ := h
      subst h
      rfl
def vN : cK := (fR.aK J0 ZD)
theorem NV : ab Try.prog 106 vN := RH
theorem NU : aL vN := aD
def CT : Env := aA 106 vN CM
theorem xg : aW Try.prog CT := ag NV wZ
theorem yn : av CT := ac NU yh
theorem P9 : bm Try.prog te CT := aP follows au xg yn
def ik : ap := ⟨[.val false .int], [], true, 0, false⟩
abbrev En : Type := ((Int) × Unit) × (Unit)
def tg : az := ⟨[.val false .u64], [], false⟩
def JL : SV → Option az := fun _ => some tg
def NF (a0 : Int) : OT ik.Y :=
  (.br (a0 == (0 : Int))
  (.ok ⟨tg, (((16513537 : UInt64), ()), ())⟩)
  (.ok ⟨tg, (((16521217 : UInt64), ()), ())⟩))
theorem aiq (x : En) (Q : ik.Y → Prop) : wpf te CT ay 1000 Try.f75 (ik.inp.inj x).tm (ik.inp.inj x).hp (fnK ik JL Q) (fun _ _ => False) = (NF (x.1.1)).wpR Q := by kernel_rfl
theorem Uj (pre : En → Bool) (F : En → OT ik.Y) (hF : ∀ (x : En) oy, pre x = true → (F x).run = some oy → (NF (x.1.1)).run = some oy) : ab Try.prog 75 (ik.aK pre F) :=
  aE au xg P9 (f := 75) (fn := Try.f75) (c := al Try.f75) (by kernel_rfl) (by kernel_rfl) (by kernel_rfl) (S := ik) (k := 0) (by kernel_rfl) (fun R hR => af) (n := 1000) (sel := JL) (fun v o h => by cases h; rfl) (pre := pre) (F := F) (T := fun x => NF (x.1.1)) (fun x Q => aiq x Q) hF
def II (s : Int) : UInt64 := cond (s == 0) 16513537 16521217
def JM (_ : En) : Bool := true
def Zr (x : En) : OT ik.Y := .ok ⟨tg, ((II x.1.1, ()), ())⟩
theorem ad1 : ab Try.prog 75 (ik.aK JM Zr) := Uj _ _ fun x oy _ ho => by
  rw [← ho]
  clear ho
  obtain ⟨⟨s, ⟨⟩⟩, ⟨⟩⟩ := x
  show _ = (OT.ok ⟨tg, ((II s, ()), ())⟩ : OT ik.Y).run
  unfold II
  rcases (Bool.eq_false_or_eq_true (s == 0)).symm with h | h
  · rw [h]; exact OT.ax h
  · rw [h]; exact OT.ao h
def vD : cK := (ik.aK JM Zr)
theorem NE : ab Try.prog 75 vD := ad1
theorem ND : aL vD := aD
def xa : Env := aA 75 vD CT
theorem qi : aW Try.prog xa := ag NE xg
theorem yi : av xa := ac ND yn
theorem CN : bm Try.prog te xa := aP follows au qi yi
def dr : ap := ⟨[.val true .elem, .val true .elem], [], true, 0, false⟩
abbrev pq : Type := ((aa) × (aa) × Unit) × (Unit)
def kV : Shape := ⟨24, [(2, .ptr 0 0 0), (3, .ptr 1 0 0), (5, .val false .int)], [(0, .row .u64), (1, .row .u64)], 0, true⟩
abbrev aS : Type := ((Unit) × (Unit) × (Int) × Unit) × ((List (UInt64)) × (List (UInt64)) × Unit)
def hI : Shape := ⟨24, [(4, .val false .bool)], [], 0, true⟩
abbrev fP : Type := ((Bool) × Unit) × (Unit)
def ka : Shape := ⟨24, [], [], 0, true⟩
abbrev fQ : Type := (Unit) × (Unit)
def Ew : SE → Option Shape := ku [(0, ka)] (some hI)
def Uu (a5 : Int) (c0 : List (UInt64)) (c1 : List (UInt64)) : OT (Sum aS aQ) :=
  let z0 : Bool := inB a5 4
  let z1 : Bool := decide (Int.toNat a5 + 0 < List.length c0)
  let z2 : Bool := decide (Int.toNat a5 + 0 < List.length c1)
  let z3 : UInt64 := List.getD c0 (Int.toNat a5 + 0) (0 : UInt64)
  let z4 : UInt64 := List.getD c1 (Int.toNat a5 + 0) (0 : UInt64)
  (.br (decide ((0 : Int) ≤ a5))
  (gd [z0, z1, z0, z2] (.br (!z3 == z4)
    (gd [z0, z1, z0, z2] (.ok (.inr ⟨(.ret, hI), ((decide (z3 < z4), ()), ())⟩)))
    (gd [inR (a5 - (1 : Int))] (.ok (.inl (((), ((), (a5 - (1 : Int), ()))), (c0, (c1, ()))))))))
  (.ok (.inr ⟨(.exit 0, ka), ((), ())⟩)))
def eT (s : aS) : OT (Sum aS aQ) := Uu (s.1.2.2.1) (s.2.1) (s.2.2.1)
theorem Ur (s : aS) (Q : Sum aS aQ → Prop) : wps te xa ay 1000 (bJ (al Try.f86) 0) (kV.inj s) (cW kV Ew (Q : Sum kV.T aQ → Prop)) = (eT s).wpR Q := by kernel_rfl
def kW (g0_r : aS → fP) (c0_r : aS → Bool) (g0_0 : aS → fQ) (s : aS) : OT aQ := (.br (c0_r s) (.ok ⟨(.ret, hI), g0_r s⟩) (.ok ⟨(.exit 0, ka), g0_0 s⟩))
def iM : az := ⟨[.val false .bool], [], false⟩
def Ar : SV → Option az := fun _ => some iM
def Av (ok0 : aS → Bool) (g0_r : aS → fP) (c0_r : aS → Bool) (g0_0 : aS → fQ) (a0 : aa) (a1 : aa) : OT dr.Y :=
  let z0 : (PUnit × PUnit × Int × PUnit) × List UInt64 × List UInt64 × PUnit := (((), (), (3 : Int), ()), [a0.w0, a0.w1, a0.w2, a0.w3], [a1.w0, a1.w1, a1.w2, a1.w3], ())
  (gd [ok0 z0] (.br (c0_r z0)
  (.ok ⟨iM, (((g0_r z0).fst.fst, ()), ())⟩)
  (.ok ⟨iM, ((false, ()), ())⟩)))
theorem ZB (ok0 : aS → Bool) (g0_r : aS → fP) (c0_r : aS → Bool) (g0_0 : aS → fQ) (x : pq) (Q : dr.Y → Prop) : wpf te xa (bx 0 (dw kV 0 ok0 (kW g0_r c0_r g0_0)) ay) 1000 Try.f86 (dr.inp.inj x).tm (dr.inp.inj x).hp (fnK dr Ar Q) (fun _ _ => False) = (Av ok0 g0_r c0_r g0_0 (x.1.1) (x.1.2.1)).wpR Q := by kernel_rfl
theorem JV (ok0 : aS → Bool) (g0_r : aS → fP) (c0_r : aS → Bool) (g0_0 : aS → fQ) (h0 : ∀ s : aS, ok0 s = true → ∃ m e, aq (eT) m s = some e ∧ (kW g0_r c0_r g0_0 s).run = some e) (pre : pq → Bool) (F : pq → OT dr.Y) (hF : ∀ (x : pq) oy, pre x = true → (F x).run = some oy → (Av ok0 g0_r c0_r g0_0 (x.1.1) (x.1.2.1)).run = some oy) : ab Try.prog 86 (dr.aK pre F) :=
  aE au qi CN (f := 86) (fn := Try.f86) (c := al Try.f86) (by kernel_rfl) (by kernel_rfl) (by kernel_rfl) (S := dr) (k := 0) (by kernel_rfl) (fun R hR => (aI (c := (al Try.f86)) (by kernel_rfl) (id := 0) (by kernel_rfl) (bA au qi CN (sh := kV) hR (xs := Ew) (aH (by kernel_rfl) (by kernel_rfl) hR) aX af (n := 1000) (T := eT) (fun s Q => Ur s Q) (ok := ok0) (f := kW g0_r c0_r g0_0) h0) af)) (n := 1000) (sel := Ar) (fun v o h => by cases h; rfl) (pre := pre) (F := F) (T := fun x => Av ok0 g0_r c0_r g0_0 (x.1.1) (x.1.2.1)) (fun x Q => ZB ok0 g0_r c0_r g0_0 x Q) hF
theorem EV {x y N M : Nat} (hx : x < 18446744073709551616) (hy : y < 18446744073709551616) (h : ¬ N = M) : (x + 18446744073709551616 * N < y + 18446744073709551616 * M ↔ N < M) ∧ ¬ x + 18446744073709551616 * N = y + 18446744073709551616 * M := by
  omega
theorem aaw {x y N : Nat} : (x + 18446744073709551616 * N < y + 18446744073709551616 * N ↔ x < y) ∧ (¬ x = y → ¬ x + 18446744073709551616 * N = y + 18446744073709551616 * N) := by
  omega
theorem H7 {n m : Nat} {x y : UInt64} (h : n < m ↔ x.toNat < y.toNat) : decide (x < y) = Nat.blt n m := by
  have h1 : Nat.blt n m = true ↔ n < m := ⟨cC, fun h => Nat.ble_eq_true_of_le h⟩
  rw [Bool.eq_iff_iff, decide_eq_true_iff, h1, h, UInt64.lt_iff_toNat_lt]
theorem Oa {x y : UInt64} (h : ¬ x = y) : ¬ x.toNat = y.toNat := fun e => h (UInt64.toNat_inj.1 e)
def cV (a b : aa) (i : Int) : aS := (((), (), i, ()), (lst a, lst b, ()))
theorem qb (a b : aa) (k : Nat) (hk : k < 4) (h : (lst a).getD k 0 = (lst b).getD k 0) : (eT (cV a b (k : Int))).run = some (.inl (cV a b ((k : Int) - 1))) := by
  refine (OT.ao (decide_eq_true (by dsimp only [cV]; omega))).trans ((ai ?_).trans ((OT.ax ?_).trans ((ai ?_).trans rfl)))
  · simp only [cV, Int.toNat_natCast, Nat.add_zero, cJ, List.all_cons, List.all_nil, Bool.and_true, Bool.and_eq_true]
    exact ⟨bU (by omega), decide_eq_true hk, bU (by omega), decide_eq_true hk⟩
  · simp only [cV, Int.toNat_natCast, Nat.add_zero, h, beq_self_eq_true, Bool.not_true]
  · simp only [cV, List.all_cons, List.all_nil, Bool.and_true]
    exact bC (by omega)
theorem ko (a b : aa) (k : Nat) (hk : k < 4) (h : ¬ (lst a).getD k 0 = (lst b).getD k 0) : (eT (cV a b (k : Int))).run = some (.inr ⟨(.ret, hI), ((decide ((lst a).getD k 0 < (lst b).getD k 0), ()), ())⟩) := by
  refine (OT.ao (decide_eq_true (by dsimp only [cV]; omega))).trans ((ai ?_).trans ((OT.ao ?_).trans ((ai ?_).trans ?_)))
  · simp only [cV, Int.toNat_natCast, Nat.add_zero, cJ, List.all_cons, List.all_nil, Bool.and_true, Bool.and_eq_true]
    exact ⟨bU (by omega), decide_eq_true hk, bU (by omega), decide_eq_true hk⟩
  · simp only [cV, Int.toNat_natCast, Nat.add_zero, beq_eq_false_iff_ne.2 h, Bool.not_false]
  · simp only [cV, Int.toNat_natCast, Nat.add_zero, cJ, List.all_cons, List.all_nil, Bool.and_true, Bool.and_eq_true]
    exact ⟨bU (by omega), decide_eq_true hk, bU (by omega), decide_eq_true hk⟩
  · simp only [cV, Int.toNat_natCast, Nat.add_zero]
    rfl
def Au (s : aS) : Bool := decide (s.1.2.2.1 = 3 ∧ s.2.1.length = 4 ∧ s.2.2.1.length = 4)
def vK (s : aS) : fP := ((Nat.blt (elemOf s.2.1).nat (elemOf s.2.2.1).nat, ()), ())
def jq (s : aS) : Bool := !eqE (elemOf s.2.1) (elemOf s.2.2.1)
def vL (_ : aS) : fQ := ((), ())
theorem ug {a b : aa} (h : ¬ a = b) {r : Bool} (hr : r = Nat.blt a.nat b.nat) (hm : ∃ m, aq eT m (cV a b 3) = some ⟨(.ret, hI), ((r, ()), ())⟩) :
    ∃ m e, aq eT m (cV a b 3) = some e ∧ (kW vK jq vL (cV a b 3)).run = some e := by
  obtain ⟨m, hm⟩ := hm
  refine ⟨m, _, hm, ?_⟩
  have hc : jq (cV a b 3) = true := by
    show (!eqE a b) = true
    rw [Bool.eq_false_iff.2 fun e => h (kD.1 e)]
    rfl
  subst hr
  exact OT.ao hc
theorem Ut : ∀ s : aS, Au s = true → ∃ m e, aq eT m s = some e ∧ (kW vK jq vL s).run = some e := by
  rintro ⟨⟨⟨⟩, ⟨⟩, i, ⟨⟩⟩, ⟨l1, l2, ⟨⟩⟩⟩ h
  have h' := of_decide_eq_true h
  dsimp only at h'
  obtain ⟨rfl, h1, h2⟩ := h'
  obtain ⟨a, rfl⟩ : ∃ a, l1 = lst a := ⟨elemOf l1, (aZ h1).symm⟩
  obtain ⟨b, rfl⟩ : ∃ a, l2 = lst a := ⟨elemOf l2, (aZ h2).symm⟩
  have ha0 := a.w0.toNat_lt
  have hb0 := b.w0.toNat_lt
  have ha1 := a.w1.toNat_lt
  have hb1 := b.w1.toNat_lt
  have ha2 := a.w2.toNat_lt
  have hb2 := b.w2.toNat_lt
  by_cases h3 : a.w3 = b.w3
  · have s3 := qb a b 3 (by omega) h3
    by_cases h2 : a.w2 = b.w2
    · have s2 := qb a b 2 (by omega) h2
      by_cases h1 : a.w1 = b.w1
      · have s1 := qb a b 1 (by omega) h1
        by_cases h0 : a.w0 = b.w0
        · have s0 := qb a b 0 (by omega) h0
          have e : a = b := by cases a; cases b; simp_all
          have sx : (eT (cV a b (((0 : Nat) : Int) - 1))).run = some (.inr ⟨(.exit 0, ka), ((), ())⟩) := OT.ax (decide_eq_false (by dsimp only [cV]; omega))
          refine ⟨_, _, aO s3 (aO s2 (aO s1 (aO s0 (aT sx)))), ?_⟩
          have hc : jq (((), (), 3, ()), (lst a, lst b, ())) = false := by
            show (!eqE a b) = false
            rw [e, HJ]
            rfl
          exact OT.ax hc
        · refine ug (fun e => h0 (by rw [e])) (H7 ?_) ⟨_, aO s3 (aO s2 (aO s1 (aT (ko a b 0 (by omega) h0))))⟩
          show a.nat < b.nat ↔ a.w0.toNat < b.w0.toNat
          unfold Sx.aa.nat
          rw [h3, h2, h1]
          exact aaw.1
      · refine ug (fun e => h1 (by rw [e])) (H7 ?_) ⟨_, aO s3 (aO s2 (aT (ko a b 1 (by omega) h1)))⟩
        show a.nat < b.nat ↔ a.w1.toNat < b.w1.toNat
        unfold Sx.aa.nat
        rw [h3, h2]
        have k := aaw (x := a.w1.toNat) (y := b.w1.toNat) (N := b.w2.toNat + 18446744073709551616 * b.w3.toNat)
        exact (EV ha0 hb0 (k.2 (Oa h1))).1.trans k.1
    · refine ug (fun e => h2 (by rw [e])) (H7 ?_) ⟨_, aO s3 (aT (ko a b 2 (by omega) h2))⟩
      show a.nat < b.nat ↔ a.w2.toNat < b.w2.toNat
      unfold Sx.aa.nat
      rw [h3]
      have k := aaw (x := a.w2.toNat) (y := b.w2.toNat) (N := b.w3.toNat)
      have k1 := EV ha1 hb1 (k.2 (Oa h2))
      exact (EV ha0 hb0 k1.2).1.trans (k1.1.trans k.1)
  · refine ug (fun e => h3 (by rw [e])) (H7 ?_) ⟨_, aT (ko a b 3 (by omega) h3)⟩
    show a.nat < b.nat ↔ a.w3.toNat < b.w3.toNat
    unfold Sx.aa.nat
    have k2 := EV ha2 hb2 (Oa h3)
    have k1 := EV ha1 hb1 k2.2
    exact (EV ha0 hb0 k1.2).1.trans (k1.1.trans k2.1)
def As (_ : pq) : Bool := true
def JW (x : pq) : OT dr.Y := .ok ⟨iM, ((Nat.blt x.1.1.nat x.1.2.1.nat, ()), ())⟩
theorem Us : ab Try.prog 86 (dr.aK As JW) := JV Au vK jq vL Ut _ _ fun x oy _ ho => by
  rw [← ho]
  clear ho
  obtain ⟨⟨a, b, ⟨⟩⟩, ⟨⟩⟩ := x
  refine (ai ?_).trans ?_
  · simp only [List.all_cons, List.all_nil, Bool.and_true]
    exact decide_eq_true ⟨rfl, rfl, rfl⟩
  · rcases (Bool.eq_false_or_eq_true (eqE a b)).symm with h | h
    · have hc : jq (((), (), 3, ()), (lst a, lst b, ())) = true := by
        show (!eqE a b) = true
        rw [h]
        rfl
      exact OT.ao hc
    · have hc : jq (((), (), 3, ()), (lst a, lst b, ())) = false := by
        show (!eqE a b) = false
        rw [h]
        rfl
      refine (OT.ax hc).trans ?_
      have e : Nat.blt a.nat b.nat = false := by
        rw [kD.1 h]
        cases hb : Nat.blt b.nat b.nat
        · rfl
        · exact absurd (cC hb) (Nat.lt_irrefl _)
      show (OT.ok ⟨iM, ((false, ()), ())⟩ : OT dr.Y).run = (OT.ok ⟨iM, ((Nat.blt a.nat b.nat, ()), ())⟩ : OT dr.Y).run
      rw [e]
def nJ : cK := (dr.aK As JW)
theorem GB : ab Try.prog 86 nJ := Us
theorem GA : aL nJ := aD
def lQ : Env := aA 86 nJ xa
theorem kr : aW Try.prog lQ := ag GB qi
theorem qK : av lQ := ac GA yi
theorem uC : bm Try.prog te lQ := aP follows au kr qK
def eC : ap := ⟨[.val true .elem, .val true .elem], [], true, 0, false⟩
abbrev pk : Type := ((aa) × (aa) × Unit) × (Unit)
def kR : Shape := ⟨39, [(2, .ptr 0 0 0), (3, .ptr 1 0 0), (4, .ptr 2 0 0), (5, .ptr 3 0 0), (6, .val false .u64), (7, .val false .int)], [(0, .row .u64), (1, .row .u64), (2, .row .u64), (3, .row .u64)], 0, true⟩
abbrev bz : Type := ((Unit) × (Unit) × (Unit) × (Unit) × (UInt64) × (Int) × Unit) × ((List (UInt64)) × (List (UInt64)) × (List (UInt64)) × (List (UInt64)) × Unit)
def j9 : Shape := ⟨39, [(4, .ptr 0 0 0), (5, .ptr 1 0 0)], [(0, .row .u64), (1, .row .u64)], 0, true⟩
abbrev fN : Type := ((Unit) × (Unit) × Unit) × ((List (UInt64)) × (List (UInt64)) × Unit)
def El : SE → Option Shape := ku [(0, j9)] none
def Ui (a6 : UInt64) (a7 : Int) (c0 : List (UInt64)) (c1 : List (UInt64)) (c2 : List (UInt64)) (c3 : List (UInt64)) : OT (Sum bz aQ) :=
  let z0 : Bool := inB a7 4
  let z1 : Bool := decide (Int.toNat a7 + 0 < List.length c0)
  let z2 : Bool := decide (Int.toNat a7 + 0 < List.length c1)
  let z3 : UInt64 := List.getD c0 (Int.toNat a7 + 0) (0 : UInt64)
  let z4 : UInt64 := List.getD c1 (Int.toNat a7 + 0) (0 : UInt64)
  let z5 : Bool := inR (a7 + (1 : Int))
  let z6 : UInt64 := z3 - z4
  let z7 : List UInt64 := List.set c3 (Int.toNat a7 + 0) (z6 - a6)
  (.br (decide (a7 < (4 : Int)))
  (gd [z0, z1, z0, z2, z0, decide (Int.toNat a7 + 0 < List.length c3), z0, z1, z0, z2] (.br (decide (z3 < z4))
    (gd [z5] (.ok (.inl (((), ((), ((), ((), ((1 : UInt64), (a7 + (1 : Int), ())))))), (c0, (c1, (c2, (z7, ()))))))))
    (.br (decide (z6 < a6))
      (gd [z5] (.ok (.inl (((), ((), ((), ((), ((1 : UInt64), (a7 + (1 : Int), ())))))), (c0, (c1, (c2, (z7, ()))))))))
      (gd [z5] (.ok (.inl (((), ((), ((), ((), ((0 : UInt64), (a7 + (1 : Int), ())))))), (c0, (c1, (c2, (z7, ())))))))))))
  (.ok (.inr ⟨(.exit 0, j9), (((), ((), ())), (c2, (c3, ())))⟩)))
def kS (s : bz) : OT (Sum bz aQ) := Ui (s.1.2.2.2.2.1) (s.1.2.2.2.2.2.1) (s.2.1) (s.2.2.1) (s.2.2.2.1) (s.2.2.2.2.1)
theorem Uf (s : bz) (Q : Sum bz aQ → Prop) : wps te lQ ay 1000 (bJ (al Try.f87) 0) (kR.inj s) (cW kR El (Q : Sum kR.T aQ → Prop)) = (kS s).wpR Q := by kernel_rfl
def pj (g0_0 : bz → fN) (s : bz) : OT aQ := (.ok ⟨(.exit 0, j9), g0_0 s⟩)
def vC : az := ⟨[.val true .elem], [], false⟩
def Af : SV → Option az := fun _ => some vC
def Ai (ok0 : bz → Bool) (g0_0 : bz → fN) (a0 : aa) (a1 : aa) : OT eC.Y :=
  let z0 : (PUnit × PUnit × PUnit × PUnit × UInt64 × Int × PUnit) × List UInt64 × List UInt64 × List UInt64 × List UInt64 × PUnit := (((), (), (), (), (0 : UInt64), (0 : Int), ()), [a0.w0, a0.w1, a0.w2, a0.w3], [a1.w0, a1.w1, a1.w2, a1.w3], [(0 : UInt64), (0 : UInt64), (0 : UInt64), (0 : UInt64)], [(0 : UInt64), (0 : UInt64), (0 : UInt64), (0 : UInt64)], ())
  let z1 := (g0_0 z0).snd
  let z2 := z1.snd.fst
  let z3 := z1.fst
  let z4 : List UInt64 := lay z3 z2 4 (0 : UInt64)
  (gd [ok0 z0, decide (4 ≤ List.length z2), decide ((4 / 1 : Nat) + 0 ≤ List.length z3), decide (4 ≤ List.length z4)] (.ok ⟨vC, (({ w0 := List.getD z4 0 0, w1 := List.getD z4 1 0, w2 := List.getD z4 2 0, w3 := List.getD z4 3 0 }, ()), ())⟩))
theorem Zq (ok0 : bz → Bool) (g0_0 : bz → fN) (x : pk) (Q : eC.Y → Prop) : wpf te lQ (bx 0 (dw kR 0 ok0 (pj g0_0)) ay) 1000 Try.f87 (eC.inp.inj x).tm (eC.inp.inj x).hp (fnK eC Af Q) (fun _ _ => False) = (Ai ok0 g0_0 (x.1.1) (x.1.2.1)).wpR Q := by kernel_rfl
theorem JK (ok0 : bz → Bool) (g0_0 : bz → fN) (h0 : ∀ s : bz, ok0 s = true → ∃ m e, aq (kS) m s = some e ∧ (pj g0_0 s).run = some e) (pre : pk → Bool) (F : pk → OT eC.Y) (hF : ∀ (x : pk) oy, pre x = true → (F x).run = some oy → (Ai ok0 g0_0 (x.1.1) (x.1.2.1)).run = some oy) : ab Try.prog 87 (eC.aK pre F) :=
  aE au kr uC (f := 87) (fn := Try.f87) (c := al Try.f87) (by kernel_rfl) (by kernel_rfl) (by kernel_rfl) (S := eC) (k := 0) (by kernel_rfl) (fun R hR => (aI (c := (al Try.f87)) (by kernel_rfl) (id := 0) (by kernel_rfl) (bA au kr uC (sh := kR) hR (xs := El) (aH (by kernel_rfl) (by kernel_rfl) hR) aX af (n := 1000) (T := kS) (fun s Q => Uf s Q) (ok := ok0) (f := pj g0_0) h0) af)) (n := 1000) (sel := Af) (fun v o h => by cases h; rfl) (pre := pre) (F := F) (T := fun x => Ai ok0 g0_0 (x.1.1) (x.1.2.1)) (fun x Q => Zq ok0 g0_0 x Q) hF
theorem UU {x y c : UInt64} (hc : c.toNat ≤ 1) : x - y - c = lY x y c := by
  have hx := x.toNat_lt
  have hy := y.toNat_lt
  unfold lY
  rw [← UInt64.toNat_inj, UInt64.toNat_sub, UInt64.toNat_sub, UInt64.toNat_ofNat']
  omega
theorem aeC {x y c : UInt64} (h : x < y) : IG x y c = 1 := by
  have h := UInt64.lt_iff_toNat_lt.1 h
  rw [← UInt64.toNat_inj, sO, if_pos (by omega)]
  rfl
theorem aeB {x y c : UInt64} (h : ¬ x < y) (hc : x - y < c) : IG x y c = 1 := by
  have hx := x.toNat_lt
  have h : ¬ x.toNat < y.toNat := fun e => h (UInt64.lt_iff_toNat_lt.2 e)
  have hc := UInt64.lt_iff_toNat_lt.1 hc
  rw [UInt64.toNat_sub] at hc
  rw [← UInt64.toNat_inj, sO, if_pos (by omega)]
  rfl
theorem aeA {x y c : UInt64} (h : ¬ x < y) (hc : ¬ x - y < c) : IG x y c = 0 := by
  have hx := x.toNat_lt
  have h : ¬ x.toNat < y.toNat := fun e => h (UInt64.lt_iff_toNat_lt.2 e)
  have hc : ¬ (x - y).toNat < c.toNat := fun e => hc (UInt64.lt_iff_toNat_lt.2 e)
  rw [UInt64.toNat_sub] at hc
  rw [← UInt64.toNat_inj, sO, if_neg (by omega)]
  rfl
def Ah (s : bz) : Bool := decide (s.1.2.2.2.2.1 = 0 ∧ s.1.2.2.2.2.2.1 = 0 ∧ s.2.1.length = 4 ∧ s.2.2.1.length = 4 ∧ s.2.2.2.2.1 = [0, 0, 0, 0])
def Em (s : bz) : fN := (((), (), ()), (s.2.2.2.1, (upto (DG s.2.1 s.2.2.1) ([0, 0, 0, 0], 0) 4).1, ()))
theorem Uh : ∀ s : bz, Ah s = true → ∃ m e, aq kS m s = some e ∧ (pj Em s).run = some e := by
  rintro ⟨⟨⟨⟩, ⟨⟩, ⟨⟩, ⟨⟩, c, i, ⟨⟩⟩, ⟨c0, c1, c2, c3, ⟨⟩⟩⟩ h
  have h' := of_decide_eq_true h
  dsimp only at h'
  obtain ⟨rfl, rfl, h0, h1, rfl⟩ := h'
  have := (bI (T := kS) (fun k s => ((((), (), (), (), s.2, (k : Int), ()), (c0, c1, c2, s.1, ())) : bz)) (DG c0 c1)
    (fun s => (⟨(.exit 0, j9), (((), (), ()), (c2, s.1, ()))⟩ : aQ)) 4 ([0, 0, 0, 0], 0) (fun _ s => s.1.length = 4 ∧ s.2.toNat ≤ 1) ⟨rfl, by decide⟩ (fun k s hk hs => ⟨?_, ?_⟩) (fun s hs => ?_)).1
  · obtain ⟨m, hm⟩ := this
    exact ⟨m, _, hm, rfl⟩
  · obtain ⟨o, c⟩ := s
    dsimp only at hs
    refine (OT.ao (decide_eq_true (by dsimp only; omega))).trans ((ai ?_).trans ?_)
    · simp only [Int.toNat_natCast, Nat.add_zero, h0, h1, hs.1, List.all_cons, List.all_nil, Bool.and_true, Bool.and_eq_true]
      exact ⟨bU (by omega), decide_eq_true (by omega), bU (by omega), decide_eq_true (by omega), bU (by omega), decide_eq_true (by omega), bU (by omega), decide_eq_true (by omega), bU (by omega), decide_eq_true (by omega)⟩
    · have hi : ∀ z, (gd [inR ((k : Int) + 1)] z : OT (Sum bz aQ)).run = z.run := fun z => ai (by simp only [List.all_cons, List.all_nil, Bool.and_true]; exact bC (by omega))
      have hw := UU (x := c0.getD k 0) (y := c1.getD k 0) hs.2
      by_cases hx : c0.getD k 0 < c1.getD k 0
      · have hk1 := aeC (c := c) hx
        refine (OT.ao (decide_eq_true ?_)).trans ((hi _).trans ?_)
        · simp only [Int.toNat_natCast, Nat.add_zero]; exact hx
        · simp only [OT.j4, Int.toNat_natCast, Nat.add_zero, DG, hw, hk1]
          rfl
      · refine (OT.ax (decide_eq_false ?_)).trans ?_
        · simp only [Int.toNat_natCast, Nat.add_zero]; exact hx
        · by_cases hd : c0.getD k 0 - c1.getD k 0 < c
          · have hk2 := aeB hx hd
            refine (OT.ao (decide_eq_true ?_)).trans ((hi _).trans ?_)
            · simp only [Int.toNat_natCast, Nat.add_zero]; exact hd
            · simp only [OT.j4, Int.toNat_natCast, Nat.add_zero, DG, hw, hk2]
              rfl
          · have hk3 := aeA hx hd
            refine (OT.ax (decide_eq_false ?_)).trans ((hi _).trans ?_)
            · simp only [Int.toNat_natCast, Nat.add_zero]; exact hd
            · simp only [OT.j4, Int.toNat_natCast, Nat.add_zero, DG, hw, hk3]
              rfl
  · exact ⟨by simp only [DG, List.length_set]; exact hs.1, ve⟩
  · exact OT.ax (decide_eq_false (by dsimp only; omega))
def Ag (_ : pk) : Bool := true
def Aj (x : pk) : OT eC.Y := .ok ⟨vC, (((kx x.1.1 x.1.2.1).1, ()), ())⟩
theorem Ug : ab Try.prog 87 (eC.aK Ag Aj) := JK Ah Em Uh _ _ fun x oy hp ho => by
  rw [← ho]
  clear ho
  obtain ⟨⟨a, b, ⟨⟩⟩, ⟨⟩⟩ := x
  obtain ⟨_, hw⟩ := D1 a b
  refine (ai ?_).trans ?_
  · simp only [List.all_cons, List.all_nil, Bool.and_true, Bool.and_eq_true]
    exact ⟨rfl, rfl, rfl, rfl⟩
  · simp only [Aj, hw]
    rfl
def nF : cK := (eC.aK Ag Aj)
theorem Gw : ab Try.prog 87 nF := Ug
theorem Gv : aL nF := aD
def lP : Env := aA 87 nF lQ
theorem kq : aW Try.prog lP := ag Gw kr
theorem qJ : av lP := ac Gv qK
theorem uz : bm Try.prog te lP := aP follows au kq qJ
def fL : ap := ⟨[.val true .elem, .val true .elem], [], true, 0, false⟩
abbrev vw : Type := ((aa) × (aa) × Unit) × (Unit)
def nC : Shape := ⟨39, [(2, .ptr 0 0 0), (3, .ptr 1 0 0), (4, .ptr 2 0 0), (5, .ptr 3 0 0), (6, .val false .u64), (7, .val false .int)], [(0, .row .u64), (1, .row .u64), (2, .row .u64), (3, .row .u64)], 0, true⟩
abbrev bQ : Type := ((Unit) × (Unit) × (Unit) × (Unit) × (UInt64) × (Int) × Unit) × ((List (UInt64)) × (List (UInt64)) × (List (UInt64)) × (List (UInt64)) × Unit)
def me : Shape := ⟨39, [(4, .ptr 0 0 0), (5, .ptr 1 0 0)], [(0, .row .u64), (1, .row .u64)], 0, true⟩
abbrev gX : Type := ((Unit) × (Unit) × Unit) × ((List (UInt64)) × (List (UInt64)) × Unit)
def Jy : SE → Option Shape := ku [(0, me)] none
def Zf (a6 : UInt64) (a7 : Int) (c0 : List (UInt64)) (c1 : List (UInt64)) (c2 : List (UInt64)) (c3 : List (UInt64)) : OT (Sum bQ aQ) :=
  let z0 : Bool := inB a7 4
  let z1 : Bool := decide (Int.toNat a7 + 0 < List.length c0)
  let z2 : UInt64 := List.getD c0 (Int.toNat a7 + 0) (0 : UInt64)
  let z3 : UInt64 := z2 + List.getD c1 (Int.toNat a7 + 0) (0 : UInt64)
  let z4 : Bool := inR (a7 + (1 : Int))
  let z5 : List UInt64 := List.set c3 (Int.toNat a7 + 0) (z3 + a6)
  (.br (decide (a7 < (4 : Int)))
  (gd [z0, z1, z0, decide (Int.toNat a7 + 0 < List.length c1), z0, decide (Int.toNat a7 + 0 < List.length c3), z0, z1] (.br (decide (z3 < z2))
    (gd [z4] (.ok (.inl (((), ((), ((), ((), ((1 : UInt64), (a7 + (1 : Int), ())))))), (c0, (c1, (c2, (z5, ()))))))))
    (gd [z0, decide (Int.toNat a7 + 0 < List.length z5)] (.br (decide (List.getD z5 (Int.toNat a7 + 0) (0 : UInt64) < z3))
      (gd [z4] (.ok (.inl (((), ((), ((), ((), ((1 : UInt64), (a7 + (1 : Int), ())))))), (c0, (c1, (c2, (z5, ()))))))))
      (gd [z4] (.ok (.inl (((), ((), ((), ((), ((0 : UInt64), (a7 + (1 : Int), ())))))), (c0, (c1, (c2, (z5, ()))))))))))))
  (.ok (.inr ⟨(.exit 0, me), (((), ((), ())), (c2, (c3, ())))⟩)))
def nD (s : bQ) : OT (Sum bQ aQ) := Zf (s.1.2.2.2.2.1) (s.1.2.2.2.2.2.1) (s.2.1) (s.2.2.1) (s.2.2.2.1) (s.2.2.2.2.1)
theorem Zc (s : bQ) (Q : Sum bQ aQ → Prop) : wps te lP ay 1000 (bJ (al Try.f76) 0) (nC.inj s) (cW nC Jy (Q : Sum nC.T aQ → Prop)) = (nD s).wpR Q := by kernel_rfl
def tb (g0_0 : bQ → gX) (s : bQ) : OT aQ := (.ok ⟨(.exit 0, me), g0_0 s⟩)
def zZ : az := ⟨[.val true .elem], [], false⟩
def Eg : SV → Option az := fun _ => some zZ
def Gm (ok0 : bQ → Bool) (g0_0 : bQ → gX) (a0 : aa) (a1 : aa) : OT fL.Y :=
  let z0 : (PUnit × PUnit × PUnit × PUnit × UInt64 × Int × PUnit) × List UInt64 × List UInt64 × List UInt64 × List UInt64 × PUnit := (((), (), (), (), (0 : UInt64), (0 : Int), ()), [a0.w0, a0.w1, a0.w2, a0.w3], [a1.w0, a1.w1, a1.w2, a1.w3], [(0 : UInt64), (0 : UInt64), (0 : UInt64), (0 : UInt64)], [(0 : UInt64), (0 : UInt64), (0 : UInt64), (0 : UInt64)], ())
  let z1 := (g0_0 z0).snd
  let z2 := z1.snd.fst
  let z3 := z1.fst
  let z4 : List UInt64 := lay z3 z2 4 (0 : UInt64)
  (gd [ok0 z0, decide (4 ≤ List.length z2), decide ((4 / 1 : Nat) + 0 ≤ List.length z3), decide (4 ≤ List.length z4)] (.ok ⟨zZ, (({ w0 := List.getD z4 0 0, w1 := List.getD z4 1 0, w2 := List.getD z4 2 0, w3 := List.getD z4 3 0 }, ()), ())⟩))
theorem adV (ok0 : bQ → Bool) (g0_0 : bQ → gX) (x : vw) (Q : fL.Y → Prop) : wpf te lP (bx 0 (dw nC 0 ok0 (tb g0_0)) ay) 1000 Try.f76 (fL.inp.inj x).tm (fL.inp.inj x).hp (fnK fL Eg Q) (fun _ _ => False) = (Gm ok0 g0_0 (x.1.1) (x.1.2.1)).wpR Q := by kernel_rfl
theorem Np (ok0 : bQ → Bool) (g0_0 : bQ → gX) (h0 : ∀ s : bQ, ok0 s = true → ∃ m e, aq (nD) m s = some e ∧ (tb g0_0 s).run = some e) (pre : vw → Bool) (F : vw → OT fL.Y) (hF : ∀ (x : vw) oy, pre x = true → (F x).run = some oy → (Gm ok0 g0_0 (x.1.1) (x.1.2.1)).run = some oy) : ab Try.prog 76 (fL.aK pre F) :=
  aE au kq uz (f := 76) (fn := Try.f76) (c := al Try.f76) (by kernel_rfl) (by kernel_rfl) (by kernel_rfl) (S := fL) (k := 0) (by kernel_rfl) (fun R hR => (aI (c := (al Try.f76)) (by kernel_rfl) (id := 0) (by kernel_rfl) (bA au kq uz (sh := nC) hR (xs := Jy) (aH (by kernel_rfl) (by kernel_rfl) hR) aX af (n := 1000) (T := nD) (fun s Q => Zc s Q) (ok := ok0) (f := tb g0_0) h0) af)) (n := 1000) (sel := Eg) (fun v o h => by cases h; rfl) (pre := pre) (F := F) (T := fun x => Gm ok0 g0_0 (x.1.1) (x.1.2.1)) (fun x Q => adV ok0 g0_0 x Q) hF
theorem ZM {x y c : UInt64} : x + y + c = qw x y c := by
  have hx := x.toNat_lt
  have hy := y.toNat_lt
  unfold qw
  rw [← UInt64.toNat_inj, UInt64.toNat_add, UInt64.toNat_add, UInt64.toNat_ofNat']
  omega
theorem Ik {x y c : UInt64} (hc : c.toNat ≤ 1) : (sE x y c).toNat = (x.toNat + y.toNat + c.toNat) / 18446744073709551616 := by
  have hx := x.toNat_lt
  have hy := y.toNat_lt
  unfold sE
  rw [UInt64.toNat_ofNat']
  omega
theorem aiC {x y c : UInt64} (hc : c.toNat ≤ 1) (h : x + y < x) : sE x y c = 1 := by
  have hx := x.toNat_lt
  have hy := y.toNat_lt
  have h := UInt64.lt_iff_toNat_lt.1 h
  rw [UInt64.toNat_add] at h
  rw [← UInt64.toNat_inj, Ik hc, show (1 : UInt64).toNat = 1 from rfl]
  omega
theorem aiB {x y c : UInt64} (hc : c.toNat ≤ 1) (h : ¬ x + y < x) (h2 : x + y + c < x + y) : sE x y c = 1 := by
  have hx := x.toNat_lt
  have hy := y.toNat_lt
  have h : ¬ (x + y).toNat < x.toNat := fun e => h (UInt64.lt_iff_toNat_lt.2 e)
  have h2 := UInt64.lt_iff_toNat_lt.1 h2
  rw [UInt64.toNat_add] at h
  rw [UInt64.toNat_add, UInt64.toNat_add] at h2
  rw [← UInt64.toNat_inj, Ik hc, show (1 : UInt64).toNat = 1 from rfl]
  omega
theorem aiA {x y c : UInt64} (hc : c.toNat ≤ 1) (h : ¬ x + y < x) (h2 : ¬ x + y + c < x + y) : sE x y c = 0 := by
  have hx := x.toNat_lt
  have hy := y.toNat_lt
  have h : ¬ (x + y).toNat < x.toNat := fun e => h (UInt64.lt_iff_toNat_lt.2 e)
  have h2 : ¬ (x + y + c).toNat < (x + y).toNat := fun e => h2 (UInt64.lt_iff_toNat_lt.2 e)
  rw [UInt64.toNat_add] at h
  rw [UInt64.toNat_add, UInt64.toNat_add] at h2
  rw [← UInt64.toNat_inj, Ik hc, show (0 : UInt64).toNat = 0 from rfl]
  omega
def Ei (s : bQ) : Bool := decide (s.1.2.2.2.2.1 = 0 ∧ s.1.2.2.2.2.2.1 = 0 ∧ s.2.1.length = 4 ∧ s.2.2.1.length = 4 ∧ s.2.2.2.2.1 = [0, 0, 0, 0])
def JB (s : bQ) : gX := (((), (), ()), (s.2.2.2.1, (upto (DY s.2.1 s.2.2.1) ([0, 0, 0, 0], 0) 4).1, ()))
theorem Ze : ∀ s : bQ, Ei s = true → ∃ m e, aq nD m s = some e ∧ (tb JB s).run = some e := by
  rintro ⟨⟨⟨⟩, ⟨⟩, ⟨⟩, ⟨⟩, c, i, ⟨⟩⟩, ⟨c0, c1, c2, c3, ⟨⟩⟩⟩ h
  have h' := of_decide_eq_true h
  dsimp only at h'
  obtain ⟨rfl, rfl, h0, h1, rfl⟩ := h'
  have := (bI (T := nD) (fun k s => ((((), (), (), (), s.2, (k : Int), ()), (c0, c1, c2, s.1, ())) : bQ)) (DY c0 c1)
    (fun s => (⟨(.exit 0, me), (((), (), ()), (c2, s.1, ()))⟩ : aQ)) 4 ([0, 0, 0, 0], 0) (fun _ s => s.1.length = 4 ∧ s.2.toNat ≤ 1) ⟨rfl, by decide⟩ (fun k s hk hs => ⟨?_, ?_⟩) (fun s hs => ?_)).1
  · obtain ⟨m, hm⟩ := this
    exact ⟨m, _, hm, rfl⟩
  · obtain ⟨o, c⟩ := s
    dsimp only at hs
    refine (OT.ao (decide_eq_true (by dsimp only; omega))).trans ((ai ?_).trans ?_)
    · simp only [Int.toNat_natCast, Nat.add_zero, h0, h1, hs.1, List.all_cons, List.all_nil, Bool.and_true, Bool.and_eq_true]
      exact ⟨bU (by omega), decide_eq_true (by omega), bU (by omega), decide_eq_true (by omega), bU (by omega), decide_eq_true (by omega), bU (by omega), decide_eq_true (by omega)⟩
    · have hi : ∀ z, (gd [inR ((k : Int) + 1)] z : OT (Sum bQ aQ)).run = z.run := fun z => ai (by simp only [List.all_cons, List.all_nil, Bool.and_true]; exact bC (by omega))
      have hw := ZM (x := c0.getD k 0) (y := c1.getD k 0) (c := c)
      by_cases hx : c0.getD k 0 + c1.getD k 0 < c0.getD k 0
      · have hk1 := aiC hs.2 hx
        refine (OT.ao (decide_eq_true ?_)).trans ((hi _).trans ?_)
        · simp only [Int.toNat_natCast, Nat.add_zero]; exact hx
        · simp only [OT.j4, Int.toNat_natCast, Nat.add_zero, DY, hw, hk1]
          rfl
      · have hs2 : ∀ v, (o.set k v).getD k 0 = v := fun v => by
          rw [List.getD_eq_getElem?_getD, List.getElem?_set_self (by omega)]
          rfl
        refine (OT.ax (decide_eq_false ?_)).trans ((ai ?_).trans ?_)
        · simp only [Int.toNat_natCast, Nat.add_zero]; exact hx
        · simp only [Int.toNat_natCast, Nat.add_zero, List.length_set, hs.1, List.all_cons, List.all_nil, Bool.and_true, Bool.and_eq_true]
          exact ⟨bU (by omega), decide_eq_true (by omega)⟩
        · by_cases hd : c0.getD k 0 + c1.getD k 0 + c < c0.getD k 0 + c1.getD k 0
          · have hk2 := aiB hs.2 hx hd
            refine (OT.ao (decide_eq_true ?_)).trans ((hi _).trans ?_)
            · simp only [Int.toNat_natCast, Nat.add_zero, hs2]; exact hd
            · simp only [OT.j4, Int.toNat_natCast, Nat.add_zero, DY, hw, hk2]
              rfl
          · have hk3 := aiA hs.2 hx hd
            refine (OT.ax (decide_eq_false ?_)).trans ((hi _).trans ?_)
            · simp only [Int.toNat_natCast, Nat.add_zero, hs2]; exact hd
            · simp only [OT.j4, Int.toNat_natCast, Nat.add_zero, DY, hw, hk3]
              rfl
  · exact ⟨by simp only [DY, List.length_set]; exact hs.1, wS hs.2⟩
  · exact OT.ax (decide_eq_false (by dsimp only; omega))
def Eh (_ : vw) : Bool := true
def Gn (x : vw) : OT fL.Y := .ok ⟨zZ, (((sF x.1.1 x.1.2.1).1, ()), ())⟩
theorem Zd : ab Try.prog 76 (fL.aK Eh Gn) := Np Ei JB Ze _ _ fun x oy hp ho => by
  rw [← ho]
  clear ho
  obtain ⟨⟨a, b, ⟨⟩⟩, ⟨⟩⟩ := x
  obtain ⟨_, hw⟩ := DZ a b
  refine (ai ?_).trans ?_
  · simp only [List.all_cons, List.all_nil, Bool.and_true, Bool.and_eq_true]
    exact ⟨rfl, rfl, rfl, rfl⟩
  · simp only [Gn, hw]
    rfl
def rb : cK := (fL.aK Eh Gn)
theorem JA : ab Try.prog 76 rb := Zd
theorem Jz : aL rb := aD
def mO : Env := aA 76 rb lP
theorem jV : aW Try.prog mO := ag JA kq
theorem uy : av mO := ac Jz qJ
theorem oO : bm Try.prog te mO := aP follows au jV uy
def ji : ap := ⟨[.val false .int, .val true .elem], [], true, 0, false⟩
abbrev JC : Type := ((Int) × (aa) × Unit) × (Unit)
def Ac : Shape := ⟨60, [(3, .ptr 0 0 0), (4, .ptr 1 0 0), (5, .val false .u64), (6, .val false .u64), (7, .val false .int)], [(0, .row .u64), (1, .row .u64)], 0, true⟩
abbrev cP : Type := ((Unit) × (Unit) × (UInt64) × (UInt64) × (Int) × Unit) × ((List (UInt64)) × (List (UInt64)) × Unit)
def td : Shape := ⟨60, [(4, .ptr 0 0 0), (6, .val false .u64)], [(0, .row .u64)], 0, true⟩
abbrev kQ : Type := ((Unit) × (UInt64) × Unit) × ((List (UInt64)) × Unit)
def Zj : SE → Option Shape := ku [(0, td)] none
def aim (a5 : UInt64) (a6 : UInt64) (a7 : Int) (c0 : List (UInt64)) (c1 : List (UInt64)) : OT (Sum cP aQ) :=
  let z0 : Bool := inB a7 4
  let z1 : Bool := decide (Int.toNat a7 + 0 < List.length c0)
  let z2 : Bool := !a5 == (0 : UInt64)
  let z3 : UInt64 := List.getD c0 (Int.toNat a7 + 0) (0 : UInt64)
  (.br (decide ((0 : Int) ≤ a7))
  (gd [z0, z1, z2, z0, z1, z2, inR (a7 - (1 : Int))] (.ok (.inl (((), ((), (a5, ((cu ((cu a6 (32 : Int) + bq z3 (32 : Int)) % a5) (32 : Int) + (z3 &&& (4294967295 : UInt64))) % a5, (a7 - (1 : Int), ()))))), (c0, (c1, ()))))))
  (.ok (.inr ⟨(.exit 0, td), (((), (a6, ())), (c1, ()))⟩)))
def Ae (s : cP) : OT (Sum cP aQ) := aim (s.1.2.2.1) (s.1.2.2.2.1) (s.1.2.2.2.2.1) (s.2.1) (s.2.2.1)
theorem aii (s : cP) (Q : Sum cP aQ → Prop) : wps te mO ay 1000 (bJ (al Try.f54) 0) (Ac.inj s) (cW Ac Zj (Q : Sum Ac.T aQ → Prop)) = (Ae s).wpR Q := by kernel_rfl
def Gt (g0_0 : cP → kQ) (s : cP) : OT aQ := (.ok ⟨(.exit 0, td), g0_0 s⟩)
def Ab : Shape := ⟨60, [(3, .ptr 0 0 0), (4, .ptr 1 0 0), (8, .ptr 2 0 0)], [(0, .row .u64), (1, .row .u64), (2, .row .u64)], 0, true⟩
abbrev c9 : Type := ((Unit) × (Unit) × (Unit) × Unit) × ((List (UInt64)) × (List (UInt64)) × (List (UInt64)) × Unit)
def tc : Shape := ⟨60, [(3, .ptr 0 0 0), (4, .ptr 1 0 0)], [(0, .row .u64), (1, .row .u64)], 0, true⟩
abbrev kP : Type := ((Unit) × (Unit) × Unit) × ((List (UInt64)) × (List (UInt64)) × Unit)
def Zi : SE → Option Shape := ku [(2, tc)] none
def ail (c0 : List (UInt64)) (c1 : List (UInt64)) (c2 : List (UInt64)) : OT (Sum c9 aQ) :=
  let z0 : Nat := List.length c0
  let z1 : Bool := decide (4 ≤ z0)
  let z2 : Bool := decide (4 ≤ List.length c2)
  let z3 : aa := { w0 := List.getD c0 0 0, w1 := List.getD c0 1 0, w2 := List.getD c0 2 0, w3 := List.getD c0 3 0 }
  let z4 : aa := { w0 := List.getD c2 0 0, w1 := List.getD c2 1 0, w2 := List.getD c2 2 0, w3 := List.getD c2 3 0 }
  let z5 := (kx z3 z4).fst
  (gd [z1, z2] (.br (!Nat.blt (aa.nat z3) (aa.nat z4))
  (gd [z1, z2, decide ((4 / 1 : Nat) + 0 ≤ z0)] (.ok (.inl (((), ((), ((), ()))), (List.set (List.set (List.set (List.set c0 0 z5.w0) 1 z5.w1) 2 z5.w2) 3 z5.w3, (c1, (c2, ())))))))
  (.ok (.inr ⟨(.exit 2, tc), (((), ((), ())), (c0, (c1, ())))⟩))))
def Ad (s : c9) : OT (Sum c9 aQ) := ail (s.2.1) (s.2.2.1) (s.2.2.2.1)
theorem aih (s : c9) (Q : Sum c9 aQ → Prop) : wps te mO ay 1000 (bJ (al Try.f54) 2) (Ab.inj s) (cW Ab Zi (Q : Sum Ab.T aQ → Prop)) = (Ad s).wpR Q := by kernel_rfl
def Gr (g2_2 : c9 → kP) (s : c9) : OT aQ := (.ok ⟨(.exit 2, tc), g2_2 s⟩)
def kB : az := ⟨[.val true .elem], [], false⟩
def Rr : SV → Option az := fun _ => some kB
def Rt (ok0 : cP → Bool) (g0_0 : cP → kQ) (ok2 : c9 → Bool) (g2_2 : c9 → kP) (a0 : Int) (a1 : aa) : OT ji.Y :=
  let z0 : (PUnit × PUnit × UInt64 × UInt64 × Int × PUnit) × List UInt64 × List UInt64 × PUnit := (((), (), II a0, (0 : UInt64), (3 : Int), ()), [a1.w0, a1.w1, a1.w2, a1.w3], [(0 : UInt64), (0 : UInt64), (0 : UInt64), (0 : UInt64)], ())
  let z1 : Bool := ok0 z0
  let z2 : (PUnit × UInt64 × PUnit) × List UInt64 × PUnit := g0_0 z0
  let z3 := z2.snd.fst
  let z4 : Bool := decide ((4 / 1 : Nat) + 0 ≤ List.length z3)
  let z5 : List UInt64 := List.set (List.set (List.set (List.set z3 0 z2.fst.snd.fst) 1 (0 : UInt64)) 2 (0 : UInt64)) 3 (0 : UInt64)
  let z6 : Bool := decide (4 ≤ List.length z5)
  let z7 : aa := { w0 := List.getD z5 0 0, w1 := List.getD z5 1 0, w2 := List.getD z5 2 0, w3 := List.getD z5 3 0 }
  let z8 : aa := (bM (Int.toNat a0)).fst
  let z9 : (PUnit × PUnit × PUnit × PUnit) × List UInt64 × List UInt64 × List UInt64 × PUnit := (((), (), (), ()), [a1.w0, a1.w1, a1.w2, a1.w3], [(0 : UInt64), (0 : UInt64), (0 : UInt64), (0 : UInt64)], [z8.w0, z8.w1, z8.w2, z8.w3], ())
  let z10 := (g2_2 z9).snd
  let z11 := z10.fst
  let z12 := z10.snd.fst
  let z13 : List UInt64 := lay z12 z11 4 (0 : UInt64)
  (.br (a0 == (0 : Int))
  (gd [z1, z4, z6] (.ok ⟨kB, ((z7, ()), ())⟩))
  (.br (a0 == (1 : Int))
    (gd [z1, z4, z6] (.ok ⟨kB, ((z7, ()), ())⟩))
    (.br (aj a0)
      (gd [ok2 z9, decide (4 ≤ List.length z11), decide ((4 / 1 : Nat) + 0 ≤ List.length z12), decide (4 ≤ List.length z13)] (.ok ⟨kB, (({ w0 := List.getD z13 0 0, w1 := List.getD z13 1 0, w2 := List.getD z13 2 0, w3 := List.getD z13 3 0 }, ()), ())⟩))
      (.ok ⟨kB, (({ w0 := 0, w1 := 0, w2 := 0, w3 := 0 }, ()), ())⟩))))
theorem akI (ok0 : cP → Bool) (g0_0 : cP → kQ) (ok2 : c9 → Bool) (g2_2 : c9 → kP) (x : JC) (Q : ji.Y → Prop) : wpf te mO (bx 2 (dw Ab 2 ok2 (Gr g2_2)) (bx 0 (dw Ac 0 ok0 (Gt g0_0)) ay)) 1000 Try.f54 (ji.inp.inj x).tm (ji.inp.inj x).hp (fnK ji Rr Q) (fun _ _ => False) = (Rt ok0 g0_0 ok2 g2_2 (x.1.1) (x.1.2.1)).wpR Q := by kernel_rfl
theorem Zl (ok0 : cP → Bool) (g0_0 : cP → kQ) (ok2 : c9 → Bool) (g2_2 : c9 → kP) (h0 : ∀ s : cP, ok0 s = true → ∃ m e, aq (Ae) m s = some e ∧ (Gt g0_0 s).run = some e) (h2 : ∀ s : c9, ok2 s = true → ∃ m e, aq (Ad) m s = some e ∧ (Gr g2_2 s).run = some e) (pre : JC → Bool) (F : JC → OT ji.Y) (hF : ∀ (x : JC) oy, pre x = true → (F x).run = some oy → (Rt ok0 g0_0 ok2 g2_2 (x.1.1) (x.1.2.1)).run = some oy) : ab Try.prog 54 (ji.aK pre F) :=
  aE au jV oO (f := 54) (fn := Try.f54) (c := al Try.f54) (by kernel_rfl) (by kernel_rfl) (by kernel_rfl) (S := ji) (k := 0) (by kernel_rfl) (fun R hR => (aI (c := (al Try.f54)) (by kernel_rfl) (id := 2) (by kernel_rfl) (bA au jV oO (sh := Ab) hR (xs := Zi) (aH (by kernel_rfl) (by kernel_rfl) hR) aX af (n := 1000) (T := Ad) (fun s Q => aih s Q) (ok := ok2) (f := Gr g2_2) h2) (aI (c := (al Try.f54)) (by kernel_rfl) (id := 0) (by kernel_rfl) (bA au jV oO (sh := Ac) hR (xs := Zj) (aH (by kernel_rfl) (by kernel_rfl) hR) aX af (n := 1000) (T := Ae) (fun s Q => aii s Q) (ok := ok0) (f := Gt g0_0) h0) af))) (n := 1000) (sel := Rr) (fun v o h => by cases h; rfl) (pre := pre) (F := F) (T := fun x => Rt ok0 g0_0 ok2 g2_2 (x.1.1) (x.1.2.1)) (fun x Q => akI ok0 g0_0 ok2 g2_2 x Q) hF
theorem akQ {r w m : Nat} : ((r * 4294967296 + w / 4294967296) % m * 4294967296 + w % 4294967296) % m = (r * 18446744073709551616 + w) % m := by
  have e : (r * 4294967296 + w / 4294967296) * 4294967296 + w % 4294967296 = r * 18446744073709551616 + w := by omega
  rw [Nat.add_mod, Nat.mul_mod, Nat.mod_mod, ← Nat.mul_mod, ← Nat.add_mod, e]
theorem aiF {r w m : UInt64} (hs : eH m = true) (hr : r.toNat < m.toNat) : (cu ((cu r 32 + bq w 32) % m) 32 + (w &&& 4294967295)) % m = Ll r w m := by
  have hm := iY hs
  have hb : m.toNat ≤ 16521217 := by rcases df hs with rfl | rfl <;> decide
  have hw := w.toNat_lt
  have e1 : (cu r 32).toNat = r.toNat * 4294967296 := by
    have : (cu r 32).toNat = r.toNat * 2 ^ 32 % 2 ^ 64 := kJ r 32 (by omega)
    rw [this]
    omega
  have e2 : (bq w 32).toNat = w.toNat / 4294967296 := fI w 32 (by omega)
  have e3 : ((cu r 32 + bq w 32) % m).toNat = (r.toNat * 4294967296 + w.toNat / 4294967296) % m.toNat := by
    rw [UInt64.toNat_mod, UInt64.toNat_add, e1, e2, Nat.mod_eq_of_lt (a := r.toNat * 4294967296 + w.toNat / 4294967296) (by omega)]
  generalize (cu r 32 + bq w 32) % m = q at e3
  have hq : q.toNat < m.toNat := by rw [e3]; exact Nat.mod_lt _ hm
  have e4 : (cu q 32).toNat = q.toNat * 4294967296 := by
    have : (cu q 32).toNat = q.toNat * 2 ^ 32 % 2 ^ 64 := kJ q 32 (by omega)
    rw [this]
    omega
  rw [← UInt64.toNat_inj, mJ hm, UInt64.toNat_mod, UInt64.toNat_add, e4, gQ, Nat.mod_eq_of_lt (a := q.toNat * 4294967296 + w.toNat % 4294967296) (by omega), e3, akQ]
def zb (s : cP) : Bool := decide (s.1.2.2.2.1 = 0 ∧ s.1.2.2.2.2.1 = 3 ∧ s.2.1.length = 4) && eH s.1.2.2.1
def Nt (s : cP) : kQ := (((), akC s.2.1 s.1.2.2.1, ()), (s.2.2.1, ()))
theorem aik : ∀ s : cP, zb s = true → ∃ m e, aq Ae m s = some e ∧ (Gt Nt s).run = some e := by
  rintro ⟨⟨⟨⟩, ⟨⟩, sm, r, i, ⟨⟩⟩, ⟨c1, c2, ⟨⟩⟩⟩ h
  simp only [zb, Bool.and_eq_true, decide_eq_true_eq] at h
  obtain ⟨⟨rfl, rfl, hl⟩, hs⟩ := h
  have hm := iY hs
  have hz : (!(sm == 0)) = true := by rcases df hs with rfl | rfl <;> rfl
  have := (bI (T := Ae) (fun k r => ((((), (), sm, r, 3 - (k : Int), ()), (c1, c2, ())) : cP)) (fun k r => Ll r (c1.getD (3 - k) 0) sm)
    (fun r => (⟨(.exit 0, td), (((), r, ()), (c2, ()))⟩ : aQ)) 4 0 (fun _ r => r.toNat < sm.toNat) hm (fun k r hk hr => ⟨?_, ?_⟩) (fun r hr => ?_)).1
  · obtain ⟨m, hm⟩ := this
    exact ⟨m, _, hm, rfl⟩
  · have e1 : (3 - (k : Int)).toNat = 3 - k := by omega
    have e2 : (3 : Int) - (k : Int) - 1 = 3 - ((k + 1 : Nat) : Int) := by omega
    refine (OT.ao (decide_eq_true (by dsimp only; omega))).trans ((ai ?_).trans ?_)
    · simp only [e1, Nat.add_zero, hl, hz, List.all_cons, List.all_nil, Bool.and_true, Bool.true_and, Bool.and_eq_true]
      exact ⟨bU (by omega), decide_eq_true (by omega), bU (by omega), decide_eq_true (by omega), bC (by omega)⟩
    · simp only [OT.j4, e1, e2, Nat.add_zero, aiF hs hr]
  · rw [mJ hm]
    exact Nat.mod_lt _ hm
  · exact OT.ax (decide_eq_false (by dsimp only; omega))
def Gq (s : c9) : Bool := decide (s.2.1.length = 4 ∧ s.2.2.2.1.length = 4 ∧ 0 < (elemOf s.2.2.2.1).nat)
def Ns (s : c9) : kP := (((), (), ()), (lst (ofN ((elemOf s.2.1).nat % (elemOf s.2.2.2.1).nat)), s.2.2.1, ()))
theorem Ua {M : aa} {c2 : List UInt64} (hm : 0 < M.nat) : ∀ (n : Nat) (a : aa), a.nat = n →
    ∃ m, aq Ad m (((), (), (), ()), (lst a, c2, lst M, ())) = some ⟨(.exit 2, tc), (((), (), ()), (lst (ofN (a.nat % M.nat)), c2, ()))⟩ := by
  intro n
  induction n using Nat.strongRecOn with
  | _ n ih =>
    intro a hn
    rcases (Bool.eq_false_or_eq_true (Nat.blt a.nat M.nat)).symm with hb | hb
    · have hle : M.nat ≤ a.nat := by
        rcases Nat.lt_or_ge a.nat M.nat with h | h
        · have : Nat.blt a.nat M.nat = true := Nat.ble_eq_true_of_le h
          rw [this] at hb; cases hb
        · exact h
      have hd := lW hle
      obtain ⟨m, hm2⟩ := ih (a.nat - M.nat) (by omega) (kx a M).1 hd
      rw [hd, ← Nat.mod_eq_sub_mod hle] at hm2
      refine ⟨m + 1, aO ?_ hm2⟩
      refine (ai rfl).trans ((OT.ao (b := !Nat.blt a.nat M.nat) (by rw [hb]; rfl)).trans ((ai rfl).trans rfl))
    · have hlt := cC hb
      rw [Nat.mod_eq_of_lt hlt, px]
      refine ⟨1, aT ?_⟩
      exact (ai rfl).trans (OT.ax (b := !Nat.blt a.nat M.nat) (by rw [hb]; rfl))
theorem aij : ∀ s : c9, Gq s = true → ∃ m e, aq Ad m s = some e ∧ (Gr Ns s).run = some e := by
  rintro ⟨⟨⟨⟩, ⟨⟩, ⟨⟩, ⟨⟩⟩, ⟨l, c2, l2, ⟨⟩⟩⟩ h
  have h' := of_decide_eq_true h
  dsimp only at h'
  obtain ⟨h1, h2, h3⟩ := h'
  obtain ⟨a, rfl⟩ : ∃ a, l = lst a := ⟨elemOf l, (aZ h1).symm⟩
  obtain ⟨M, rfl⟩ : ∃ a, l2 = lst a := ⟨elemOf l2, (aZ h2).symm⟩
  obtain ⟨m, hm⟩ := Ua (c2 := c2) (M := M) h3 _ a rfl
  exact ⟨m, _, hm, rfl⟩
def ofP (p : Nat) (a : aa) : aa := ofN (a.nat % p)
def Rs (_ : JC) : Bool := true
def afP (x : JC) : OT ji.Y := .br (aj x.1.1) (.ok ⟨kB, ((ofP (pS x.1.1) x.1.2.1, ()), ())⟩) (.ok ⟨kB, ((⟨0, 0, 0, 0⟩, ()), ())⟩)
theorem Kc {a : aa} {p : Nat} {m : UInt64} (hp : p = m.toNat) (hs : eH m = true) : (⟨akC (lst a) m, 0, 0, 0⟩ : aa) = ofP p a := by
  have hm := iY hs
  unfold ofP
  rw [Re hs, hp, nS (n := a.nat % m.toNat) (Nat.lt_trans (Nat.mod_lt _ hm) m.toNat_lt)]
theorem RO {s : Int} {a : aa} (h0 : (s == 0) = false) (h1 : (s == 1) = false) (hs : aj s = true) : (Rt zb Nt Gq Ns s a).run = some ⟨kB, ((ofP (pS s) a, ()), ())⟩ := by
  refine (OT.ax h0).trans ((OT.ax h1).trans ((OT.ao hs).trans ((ai ?_).trans rfl)))
  simp only [List.all_cons, List.all_nil, Bool.and_true, Bool.and_eq_true]
  exact ⟨decide_eq_true ⟨rfl, rfl, (fc hs).1⟩, rfl, rfl, rfl⟩
theorem Zk : ab Try.prog 54 (ji.aK Rs afP) := Zl zb Nt Gq Ns aik aij _ _ fun x oy _ ho => by
  rw [← ho]
  clear ho
  obtain ⟨⟨s, a, ⟨⟩⟩, ⟨⟩⟩ := x
  rcases (Bool.eq_false_or_eq_true (aj s)).symm with hs | hs
  · obtain ⟨h0, h1, _, _⟩ := o6 hs
    exact (OT.ax h0).trans ((OT.ax h1).trans ((OT.ax hs).trans (OT.ax (b := aj s) hs).symm))
  · refine Eq.trans ?_ (OT.ao (b := aj s) hs).symm
    show _ = some (⟨kB, ((ofP (pS s) a, ()), ())⟩ : ji.Y)
    rcases cl hs with rfl | rfl | rfl | rfl
    · rw [← Kc (a := a) (p := pS 0) (m := 16513537) (by decide +kernel) rfl]
      refine (OT.ao rfl).trans ((ai ?_).trans rfl)
      exact rfl
    · rw [← Kc (a := a) (p := pS 1) (m := 16521217) (by decide +kernel) rfl]
      refine (OT.ax rfl).trans ((OT.ao rfl).trans ((ai ?_).trans rfl))
      exact rfl
    · exact RO rfl rfl rfl
    · exact RO rfl rfl rfl
def Aa : cK := (ji.aK Rs afP)
theorem Ub : ab Try.prog 54 Aa := Zk
theorem T9 : aL Aa := aD
def Ml : Env := aA 54 Aa mO
theorem CJ : aW Try.prog Ml := ag Ub jV
theorem CK : av Ml := ac T9 uy
theorem Ww : bm Try.prog te Ml := aP follows au CJ CK
def fq : ap := ⟨[.val false .int, .val true .elem, .val true .elem], [], true, 0, false⟩
abbrev Ex : Type := ((Int) × (aa) × (aa) × Unit) × (Unit)
def cn : az := ⟨[.val true .elem], [], false⟩
def J1 : SV → Option az := fun _ => some cn
def NZ (a0 : Int) (a1 : aa) (a2 : aa) : OT fq.Y :=
  let z0 : Bool := aj a0
  let z1 : UInt64 := II a0
  let z2 : Bool := !z1 == (0 : UInt64)
  let z3 : Nat := pS a0
  let z4 : aa := ofP z3 a1
  let z5 := z4.w0
  let z6 : aa := ofP z3 a2
  let z7 := z6.w0
  let z8 : aa := { w0 := (z5 + z7) % z1, w1 := 0, w2 := 0, w3 := 0 }
  let z9 : aa := { w0 := (z5 + (0 : UInt64)) % z1, w1 := 0, w2 := 0, w3 := 0 }
  let z10 : aa := { w0 := ((0 : UInt64) + z7) % z1, w1 := 0, w2 := 0, w3 := 0 }
  let z11 : aa := { w0 := 0 % z1, w1 := 0, w2 := 0, w3 := 0 }
  let z12 : aa := { w0 := 0, w1 := 0, w2 := 0, w3 := 0 }
  (.br (a0 == (0 : Int))
  (.br (z0)
    (.br (z0)
      (gd [z2] (.ok ⟨cn, ((z8, ()), ())⟩))
      (gd [z2] (.ok ⟨cn, ((z9, ()), ())⟩)))
    (.br (z0)
      (gd [z2] (.ok ⟨cn, ((z10, ()), ())⟩))
      (gd [z2] (.ok ⟨cn, ((z11, ()), ())⟩))))
  (.br (a0 == (1 : Int))
    (.br (z0)
      (.br (z0)
        (gd [z2] (.ok ⟨cn, ((z8, ()), ())⟩))
        (gd [z2] (.ok ⟨cn, ((z9, ()), ())⟩)))
      (.br (z0)
        (gd [z2] (.ok ⟨cn, ((z10, ()), ())⟩))
        (gd [z2] (.ok ⟨cn, ((z11, ()), ())⟩))))
    (.br (z0)
      (.br (z0)
        (.br (z0)
          (.ok ⟨cn, ((ofP z3 (sF z4 z6).fst, ()), ())⟩)
          (.ok ⟨cn, ((z12, ()), ())⟩))
        (.br (z0)
          (.ok ⟨cn, ((ofP z3 (sF z4 z12).fst, ()), ())⟩)
          (.ok ⟨cn, ((z12, ()), ())⟩)))
      (.br (z0)
        (.br (z0)
          (.ok ⟨cn, ((ofP z3 (sF z12 z6).fst, ()), ())⟩)
          (.ok ⟨cn, ((z12, ()), ())⟩))
        (.br (z0)
          (.ok ⟨cn, ((ofP z3 z12, ()), ())⟩)
          (.ok ⟨cn, ((z12, ()), ())⟩))))))
theorem aiw (x : Ex) (Q : fq.Y → Prop) : wpf te Ml ay 1000 Try.f43 (fq.inp.inj x).tm (fq.inp.inj x).hp (fnK fq J1 Q) (fun _ _ => False) = (NZ (x.1.1) (x.1.2.1) (x.1.2.2.1)).wpR Q := by kernel_rfl
theorem Uw (pre : Ex → Bool) (F : Ex → OT fq.Y) (hF : ∀ (x : Ex) oy, pre x = true → (F x).run = some oy → (NZ (x.1.1) (x.1.2.1) (x.1.2.2.1)).run = some oy) : ab Try.prog 43 (fq.aK pre F) :=
  aE au CJ Ww (f := 43) (fn := Try.f43) (c := al Try.f43) (by kernel_rfl) (by kernel_rfl) (by kernel_rfl) (S := fq) (k := 0) (by kernel_rfl) (fun R hR => af) (n := 1000) (sel := J1) (fun v o h => by cases h; rfl) (pre := pre) (F := F) (T := fun x => NZ (x.1.1) (x.1.2.1) (x.1.2.2.1)) (fun x Q => aiw x Q) hF
theorem tJ {s : Int} (h : s = 0 ∨ s = 1) : pS s = (II s).toNat ∧ 0 < (II s).toNat ∧ (II s).toNat ≤ 16521217 ∧ (!(II s == 0)) = true := by
  rcases h with rfl | rfl <;> exact ⟨by decide +kernel, by decide +kernel, by decide +kernel, rfl⟩
theorem Wr {s : Int} (h : s = 0 ∨ s = 1) (a b : aa) : (⟨((ofP (pS s) a).w0 + (ofP (pS s) b).w0) % II s, 0, 0, 0⟩ : aa) = nk (pS s) a b := by
  obtain ⟨hp, h0, h1, _⟩ := tJ h
  rw [hp]
  generalize II s = m at *
  have ha := Nat.mod_lt a.nat h0
  have hb := Nat.mod_lt b.nat h0
  have hc := Nat.mod_lt (a.nat + b.nat) h0
  unfold nk
  rw [nS (by omega)]
  have e : ((ofP m.toNat a).w0 + (ofP m.toNat b).w0) % m = UInt64.ofNat ((a.nat + b.nat) % m.toNat) := by
    show (UInt64.ofNat (a.nat % m.toNat) + UInt64.ofNat (b.nat % m.toNat)) % m = _
    rw [← UInt64.toNat_inj, UInt64.toNat_mod, UInt64.toNat_add, UInt64.toNat_ofNat', UInt64.toNat_ofNat', UInt64.toNat_ofNat', Nat.mod_eq_of_lt (a := a.nat % m.toNat) (by omega), Nat.mod_eq_of_lt (a := b.nat % m.toNat) (by omega),
      Nat.mod_eq_of_lt (a := a.nat % m.toNat + b.nat % m.toNat) (by omega), Nat.mod_eq_of_lt (a := (a.nat + b.nat) % m.toNat) (by omega), ← Nat.add_mod]
  rw [e]
def nK (x : Ex) : Bool := aj x.1.1
def ZE (x : Ex) : OT fq.Y := .ok ⟨cn, ((nk (pS x.1.1) x.1.2.1 x.1.2.2.1, ()), ())⟩
theorem aeb : ab Try.prog 43 (fq.aK nK ZE) := Uw _ _ fun x oy hp ho => by
  rw [← ho]
  clear ho
  obtain ⟨⟨s, a, b, ⟨⟩⟩, ⟨⟩⟩ := x
  have hs : aj s = true := hp
  show _ = some (⟨cn, ((nk (pS s) a b, ()), ())⟩ : fq.Y)
  have little : (s = 0 ∨ s = 1) → (gd [!(II s == 0)] (.ok ⟨cn, ((⟨((ofP (pS s) a).w0 + (ofP (pS s) b).w0) % II s, 0, 0, 0⟩, ()), ())⟩) : OT fq.Y).run = some (⟨cn, ((nk (pS s) a b, ()), ())⟩ : fq.Y) := fun h => by
    obtain ⟨_, _, _, hz⟩ := tJ h
    rw [Wr h]
    exact ai (by simp only [hz, List.all_cons, List.all_nil, Bool.and_true])
  by_cases h0 : s = 0
  · exact (OT.ao (by simpa using h0)).trans ((OT.ao hs).trans ((OT.ao hs).trans (little (.inl h0))))
  · refine (OT.ax (by simpa using h0)).trans ?_
    by_cases h1 : s = 1
    · exact (OT.ao (by simpa using h1)).trans ((OT.ao hs).trans ((OT.ao hs).trans (little (.inr h1))))
    · refine (OT.ax (by simpa using h1)).trans ((OT.ao hs).trans ((OT.ao hs).trans ((OT.ao hs).trans ?_)))
      have e : ofP (pS s) (sF (ofP (pS s) a) (ofP (pS s) b)).1 = nk (pS s) a b := acG (fc hs) a b
      show some (⟨cn, ((ofP (pS s) (sF (ofP (pS s) a) (ofP (pS s) b)).1, ()), ())⟩ : fq.Y) = _
      rw [e]
def vO : cK := (fq.aK nK ZE)
theorem NY : ab Try.prog 43 vO := aeb
theorem NX : aL vO := aD
def CU : Env := aA 43 vO Ml
theorem xh : aW Try.prog CU := ag NY CJ
theorem yo : av CU := ac NX CK
theorem Qa : bm Try.prog te CU := aP follows au xh yo
def ij : ap := ⟨[.val false .int, .val true .elem], [], true, 0, false⟩
abbrev Ej : Type := ((Int) × (aa) × Unit) × (Unit)
def j8 : az := ⟨[.val true .elem], [], false⟩
def JD : SV → Option az := fun _ => some j8
def Nw (a0 : Int) (a1 : aa) : OT ij.Y :=
  let z0 : Bool := aj a0
  let z1 : Nat := pS a0
  let z2 : aa := (bM (Int.toNat a0)).fst
  let z3 : aa := { w0 := 0, w1 := 0, w2 := 0, w3 := 0 }
  (.br (z0)
  (.br (z0)
    (.br (z0)
      (.ok ⟨j8, ((ofP z1 (kx z2 (ofP z1 a1)).fst, ()), ())⟩)
      (.ok ⟨j8, ((z3, ()), ())⟩))
    (.br (z0)
      (.ok ⟨j8, ((ofP z1 (kx z2 z3).fst, ()), ())⟩)
      (.ok ⟨j8, ((z3, ()), ())⟩)))
  (.ok ⟨j8, ((z3, ()), ())⟩))
theorem ain (x : Ej) (Q : ij.Y → Prop) : wpf te CU ay 1000 Try.f64 (ij.inp.inj x).tm (ij.inp.inj x).hp (fnK ij JD Q) (fun _ _ => False) = (Nw (x.1.1) (x.1.2.1)).wpR Q := by kernel_rfl
theorem Uc (pre : Ej → Bool) (F : Ej → OT ij.Y) (hF : ∀ (x : Ej) oy, pre x = true → (F x).run = some oy → (Nw (x.1.1) (x.1.2.1)).run = some oy) : ab Try.prog 64 (ij.aK pre F) :=
  aE au xh Qa (f := 64) (fn := Try.f64) (c := al Try.f64) (by kernel_rfl) (by kernel_rfl) (by kernel_rfl) (S := ij) (k := 0) (by kernel_rfl) (fun R hR => af) (n := 1000) (sel := JD) (fun v o h => by cases h; rfl) (pre := pre) (F := F) (T := fun x => Nw (x.1.1) (x.1.2.1)) (fun x Q => ain x Q) hF
theorem neg_eq {s : Int} (hs : aj s = true) (a : aa) : ofP (pS s) (kx (bM s.toNat).1 (ofP (pS s) a)).1 = AC (pS s) a := by
  have hp := fc hs
  have hlt := Nat.mod_lt a.nat hp.1
  have e : (ofP (pS s) a).nat = a.nat % pS s := cv hp
  unfold AC
  have e2 : (kx (bM s.toNat).1 (ofP (pS s) a)).1.nat = pS s - a.nat % pS s := by
    rw [lW (by rw [e]; exact Nat.le_of_lt hlt), e]
    rfl
  show ofN (_ % _) = _
  rw [e2]
def nE (x : Ej) : Bool := aj x.1.1
def Zm (x : Ej) : OT ij.Y := .ok ⟨j8, ((AC (pS x.1.1) x.1.2.1, ()), ())⟩
theorem adX : ab Try.prog 64 (ij.aK nE Zm) := Uc _ _ fun x oy hp ho => by
  rw [← ho]
  clear ho
  obtain ⟨⟨s, a, ⟨⟩⟩, ⟨⟩⟩ := x
  have hs : aj s = true := hp
  show _ = some (⟨j8, ((AC (pS s) a, ()), ())⟩ : ij.Y)
  rw [← neg_eq hs]
  exact (OT.ao hs).trans ((OT.ao hs).trans ((OT.ao hs).trans rfl))
def vy : cK := (ij.aK nE Zm)
theorem Nv : ab Try.prog 64 vy := adX
theorem Nu : aL vy := aD
def CL : Env := aA 64 vy CU
theorem wY : aW Try.prog CL := ag Nv xh
theorem yf : av CL := ac Nu yo
theorem P0 : bm Try.prog te CL := aP follows au wY yf
def jg : ap := ⟨[.val false .int, .val true .elem, .val true .elem], [], true, 0, false⟩
abbrev Ee : Type := ((Int) × (aa) × (aa) × Unit) × (Unit)
def Gk : az := ⟨[.val true .elem], [], false⟩
def Jt : SV → Option az := fun _ => some Gk
def Nl (a0 : Int) (a1 : aa) (a2 : aa) : OT jg.Y :=
  let z0 : Nat := pS a0
  let z1 : aa := AC z0 a2
  (gd [nE ((a0, a2, ()), ()), nK ((a0, a1, z1, ()), ())] (.ok ⟨Gk, ((nk z0 a1 z1, ()), ())⟩))
theorem aif (x : Ee) (Q : jg.Y → Prop) : wpf te CL ay 1000 Try.f88 (jg.inp.inj x).tm (jg.inp.inj x).hp (fnK jg Jt Q) (fun _ _ => False) = (Nl (x.1.1) (x.1.2.1) (x.1.2.2.1)).wpR Q := by kernel_rfl
theorem T8 (pre : Ee → Bool) (F : Ee → OT jg.Y) (hF : ∀ (x : Ee) oy, pre x = true → (F x).run = some oy → (Nl (x.1.1) (x.1.2.1) (x.1.2.2.1)).run = some oy) : ab Try.prog 88 (jg.aK pre F) :=
  aE au wY P0 (f := 88) (fn := Try.f88) (c := al Try.f88) (by kernel_rfl) (by kernel_rfl) (by kernel_rfl) (S := jg) (k := 0) (by kernel_rfl) (fun R hR => af) (n := 1000) (sel := Jt) (fun v o h => by cases h; rfl) (pre := pre) (F := F) (T := fun x => Nl (x.1.1) (x.1.2.1) (x.1.2.2.1)) (fun x Q => aif x Q) hF
def dR (x : Ee) : Bool := aj x.1.1
def Y5 (x : Ee) : OT jg.Y := .ok ⟨Gk, ((eM (pS x.1.1) x.1.2.1 x.1.2.2.1, ()), ())⟩
theorem adT : ab Try.prog 88 (jg.aK dR Y5) := T8 _ _ fun x oy hp ho => by
  rw [← ho]
  clear ho
  obtain ⟨⟨s, a, b, ⟨⟩⟩, ⟨⟩⟩ := x
  have hs : aj s = true := hp
  refine (ai ?_).trans rfl
  simp only [List.all_cons, List.all_nil, Bool.and_true, Bool.and_eq_true]
  exact ⟨hs, hs⟩
def vr : cK := (jg.aK dR Y5)
theorem Nk : ab Try.prog 88 vr := adT
theorem Nj : aL vr := aD
def wW : Env := aA 88 vr CL
theorem qh : aW Try.prog wW := ag Nk wY
theorem yd : av wW := ac Nj yf
theorem CH : bm Try.prog te wW := aP follows au qh yd
def fp : ap := ⟨[.val false .int, .val true .elem, .val true .elem], [], true, 0, false⟩
abbrev Ek : Type := ((Int) × (aa) × (aa) × Unit) × (Unit)
def tf : Shape := ⟨80, [(4, .ptr 0 0 0), (5, .ptr 1 0 0), (6, .ptr 2 0 0), (7, .ptr 3 0 0), (9, .ptr 4 0 0), (10, .val false .int)], [(0, .row .u64), (1, .row .u64), (2, .row .u64), (3, .row .u64), (4, .row .u64)], 0, true⟩
abbrev bL : Type := ((Unit) × (Unit) × (Unit) × (Unit) × (Unit) × (Int) × Unit) × ((List (UInt64)) × (List (UInt64)) × (List (UInt64)) × (List (UInt64)) × (List (UInt64)) × Unit)
def ph : Shape := ⟨80, [(6, .ptr 0 0 0), (9, .ptr 1 0 0)], [(0, .row .u64), (1, .row .u64)], 0, true⟩
abbrev jj : Type := ((Unit) × (Unit) × Unit) × ((List (UInt64)) × (List (UInt64)) × Unit)
def Ru : SE → Option Shape := ku [(0, ph)] none
def Gu (a10 : Int) (c0 : List (UInt64)) (c1 : List (UInt64)) (c2 : List (UInt64)) (c3 : List (UInt64)) (c4 : List (UInt64)) : OT (Sum bL aQ) :=
  let z0 : Nat := List.length c4
  let z1 : Bool := decide (4 ≤ z0)
  let z2 : aa := { w0 := List.getD c4 0 0, w1 := List.getD c4 1 0, w2 := List.getD c4 2 0, w3 := List.getD c4 3 0 }
  let z3 := (sF z2 z2).fst
  let z4 : List UInt64 := List.set (List.set (List.set (List.set c4 0 z3.w0) 1 z3.w1) 2 z3.w2) 3 z3.w3
  let z5 : Nat := List.length z4
  let z6 : Bool := decide (4 ≤ z5)
  let z7 : Bool := decide (4 ≤ List.length c3)
  let z8 : aa := { w0 := List.getD z4 0 0, w1 := List.getD z4 1 0, w2 := List.getD z4 2 0, w3 := List.getD z4 3 0 }
  let z9 : aa := { w0 := List.getD c3 0 0, w1 := List.getD c3 1 0, w2 := List.getD c3 2 0, w3 := List.getD c3 3 0 }
  let z10 : Nat := aa.nat z9
  let z11 : Int := Int.tdiv a10 (64 : Int)
  let z12 : Bool := true && inR z11
  let z13 : Bool := inB z11 4
  let z14 : Bool := decide (Int.toNat z11 + 0 < List.length c1)
  let z15 := (kx z8 z9).fst
  let z16 : List UInt64 := List.set (List.set (List.set (List.set z4 0 z15.w0) 1 z15.w1) 2 z15.w2) 3 z15.w3
  let z17 : Nat := List.length z16
  let z18 : Bool := decide (4 ≤ List.length c0)
  let z19 : aa := { w0 := List.getD c0 0 0, w1 := List.getD c0 1 0, w2 := List.getD c0 2 0, w3 := List.getD c0 3 0 }
  let z20 : aa := (sF { w0 := List.getD z16 0 0, w1 := List.getD z16 1 0, w2 := List.getD z16 2 0, w3 := List.getD z16 3 0 } z19).fst
  let z21 : List UInt64 := List.set (List.set (List.set (List.set z16 0 z20.w0) 1 z20.w1) 2 z20.w2) 3 z20.w3
  let z22 : Nat := List.length z21
  let z23 : Bool := decide (4 ≤ z22)
  let z24 : aa := { w0 := List.getD z21 0 0, w1 := List.getD z21 1 0, w2 := List.getD z21 2 0, w3 := List.getD z21 3 0 }
  let z25 : Bool := inR (a10 - (1 : Int))
  let z26 := (kx z24 z9).fst
  let z27 := (sF z8 z19).fst
  let z28 : List UInt64 := List.set (List.set (List.set (List.set z4 0 z27.w0) 1 z27.w1) 2 z27.w2) 3 z27.w3
  let z29 : Nat := List.length z28
  let z30 : Bool := decide (4 ≤ z29)
  let z31 : aa := { w0 := List.getD z28 0 0, w1 := List.getD z28 1 0, w2 := List.getD z28 2 0, w3 := List.getD z28 3 0 }
  let z32 := (kx z31 z9).fst
  (.br (decide ((0 : Int) ≤ a10))
  (gd [z1, z1, decide ((4 / 1 : Nat) + 0 ≤ z0), z6, z7] (.br (!Nat.blt (aa.nat z8) z10)
    (gd [z6, z7, decide ((4 / 1 : Nat) + 0 ≤ z5), z12, z13, z14] (.br (bq (List.getD c1 (Int.toNat z11 + 0) (0 : UInt64)) (↑(UInt64.toNat (i2u (Int.tmod a10 (64 : Int)))) : Int) &&& (1 : UInt64) == (1 : UInt64))
      (gd [decide (4 ≤ z17), z18, decide ((4 / 1 : Nat) + 0 ≤ z17), z23, z7] (.br (!Nat.blt (aa.nat z24) z10)
        (gd [z23, z7, decide ((4 / 1 : Nat) + 0 ≤ z22), z25] (.ok (.inl (((), ((), ((), ((), ((), (a10 - (1 : Int), ())))))), (c0, (c1, (c2, (c3, (List.set (List.set (List.set (List.set z21 0 z26.w0) 1 z26.w1) 2 z26.w2) 3 z26.w3, ())))))))))
        (gd [z25] (.ok (.inl (((), ((), ((), ((), ((), (a10 - (1 : Int), ())))))), (c0, (c1, (c2, (c3, (z21, ())))))))))))
      (gd [z25] (.ok (.inl (((), ((), ((), ((), ((), (a10 - (1 : Int), ())))))), (c0, (c1, (c2, (c3, (z16, ())))))))))))
    (gd [z12, z13, z14] (.br (bq (List.getD c1 (Int.toNat z11 + 0) (0 : UInt64)) (↑(UInt64.toNat (i2u (Int.tmod a10 (64 : Int)))) : Int) &&& (1 : UInt64) == (1 : UInt64))
      (gd [z6, z18, decide ((4 / 1 : Nat) + 0 ≤ z5), z30, z7] (.br (!Nat.blt (aa.nat z31) z10)
        (gd [z30, z7, decide ((4 / 1 : Nat) + 0 ≤ z29), z25] (.ok (.inl (((), ((), ((), ((), ((), (a10 - (1 : Int), ())))))), (c0, (c1, (c2, (c3, (List.set (List.set (List.set (List.set z28 0 z32.w0) 1 z32.w1) 2 z32.w2) 3 z32.w3, ())))))))))
        (gd [z25] (.ok (.inl (((), ((), ((), ((), ((), (a10 - (1 : Int), ())))))), (c0, (c1, (c2, (c3, (z28, ())))))))))))
      (gd [z25] (.ok (.inl (((), ((), ((), ((), ((), (a10 - (1 : Int), ())))))), (c0, (c1, (c2, (c3, (z4, ())))))))))))))
  (.ok (.inr ⟨(.exit 0, ph), (((), ((), ())), (c2, (c4, ())))⟩)))
def pi (s : bL) : OT (Sum bL aQ) := Gu (s.1.2.2.2.2.2.1) (s.2.1) (s.2.2.1) (s.2.2.2.1) (s.2.2.2.2.1) (s.2.2.2.2.2.1)
theorem adY (s : bL) (Q : Sum bL aQ → Prop) : wps te wW ay 1000 (bJ (al Try.f62) 0) (tf.inj s) (cW tf Ru (Q : Sum tf.T aQ → Prop)) = (pi s).wpR Q := by kernel_rfl
def zc (g0_0 : bL → jj) (s : bL) : OT aQ := (.ok ⟨(.exit 0, ph), g0_0 s⟩)
def cH : az := ⟨[.val true .elem], [], false⟩
def JE : SV → Option az := fun _ => some cH
def Nz (ok0 : bL → Bool) (g0_0 : bL → jj) (a0 : Int) (a1 : aa) (a2 : aa) : OT fp.Y :=
  let z0 : Bool := aj a0
  let z1 : UInt64 := II a0
  let z2 : Bool := !z1 == (0 : UInt64)
  let z3 : Nat := pS a0
  let z4 : aa := ofP z3 a1
  let z5 := z4.w0
  let z6 : aa := ofP z3 a2
  let z7 := z6.w0
  let z8 : aa := { w0 := z5 * z7 % z1, w1 := 0, w2 := 0, w3 := 0 }
  let z9 : aa := { w0 := z5 * (0 : UInt64) % z1, w1 := 0, w2 := 0, w3 := 0 }
  let z10 : aa := { w0 := 0 * z7 % z1, w1 := 0, w2 := 0, w3 := 0 }
  let z11 : aa := { w0 := 0 % z1, w1 := 0, w2 := 0, w3 := 0 }
  let z12 : PUnit × PUnit × PUnit × PUnit × PUnit × Int × PUnit := ((), (), (), (), (), (255 : Int), ())
  let z13 : aa := (bM (Int.toNat a0)).fst
  let z14 : List UInt64 × List UInt64 × List UInt64 × PUnit := ([(0 : UInt64), (0 : UInt64), (0 : UInt64), (0 : UInt64)], [z13.w0, z13.w1, z13.w2, z13.w3], [(0 : UInt64), (0 : UInt64), (0 : UInt64), (0 : UInt64)], ())
  let z15 : List UInt64 × List UInt64 × List UInt64 × List UInt64 × PUnit := ([z7, z6.w1, z6.w2, z6.w3], z14)
  let z16 : (PUnit × PUnit × PUnit × PUnit × PUnit × Int × PUnit) × List UInt64 × List UInt64 × List UInt64 × List UInt64 × List UInt64 × PUnit := (z12, [z5, z4.w1, z4.w2, z4.w3], z15)
  let z17 := (g0_0 z16).snd
  let z18 := z17.snd.fst
  let z19 := z17.fst
  let z20 : List UInt64 := lay z19 z18 4 (0 : UInt64)
  let z21 : List UInt64 × List UInt64 × List UInt64 × List UInt64 × PUnit := ([(0 : UInt64), (0 : UInt64), (0 : UInt64), (0 : UInt64)], z14)
  let z22 : (PUnit × PUnit × PUnit × PUnit × PUnit × Int × PUnit) × List UInt64 × List UInt64 × List UInt64 × List UInt64 × List UInt64 × PUnit := (z12, [z5, z4.w1, z4.w2, z4.w3], z21)
  let z23 := (g0_0 z22).snd
  let z24 := z23.snd.fst
  let z25 := z23.fst
  let z26 : List UInt64 := lay z25 z24 4 (0 : UInt64)
  let z27 : (PUnit × PUnit × PUnit × PUnit × PUnit × Int × PUnit) × List UInt64 × List UInt64 × List UInt64 × List UInt64 × List UInt64 × PUnit := (z12, [(0 : UInt64), (0 : UInt64), (0 : UInt64), (0 : UInt64)], z15)
  let z28 := (g0_0 z27).snd
  let z29 := z28.snd.fst
  let z30 := z28.fst
  let z31 : List UInt64 := lay z30 z29 4 (0 : UInt64)
  let z32 : (PUnit × PUnit × PUnit × PUnit × PUnit × Int × PUnit) × List UInt64 × List UInt64 × List UInt64 × List UInt64 × List UInt64 × PUnit := (z12, [(0 : UInt64), (0 : UInt64), (0 : UInt64), (0 : UInt64)], z21)
  let z33 := (g0_0 z32).snd
  let z34 := z33.snd.fst
  let z35 := z33.fst
  let z36 : List UInt64 := lay z35 z34 4 (0 : UInt64)
  (.br (a0 == (0 : Int))
  (.br (z0)
    (.br (z0)
      (gd [z2] (.ok ⟨cH, ((z8, ()), ())⟩))
      (gd [z2] (.ok ⟨cH, ((z9, ()), ())⟩)))
    (.br (z0)
      (gd [z2] (.ok ⟨cH, ((z10, ()), ())⟩))
      (gd [z2] (.ok ⟨cH, ((z11, ()), ())⟩))))
  (.br (a0 == (1 : Int))
    (.br (z0)
      (.br (z0)
        (gd [z2] (.ok ⟨cH, ((z8, ()), ())⟩))
        (gd [z2] (.ok ⟨cH, ((z9, ()), ())⟩)))
      (.br (z0)
        (gd [z2] (.ok ⟨cH, ((z10, ()), ())⟩))
        (gd [z2] (.ok ⟨cH, ((z11, ()), ())⟩))))
    (.br (z0)
      (.br (z0)
        (.br (z0)
          (gd [ok0 z16, decide (4 ≤ List.length z18), decide ((4 / 1 : Nat) + 0 ≤ List.length z19), decide (4 ≤ List.length z20)] (.ok ⟨cH, (({ w0 := List.getD z20 0 0, w1 := List.getD z20 1 0, w2 := List.getD z20 2 0, w3 := List.getD z20 3 0 }, ()), ())⟩))
          (gd [ok0 z22, decide (4 ≤ List.length z24), decide ((4 / 1 : Nat) + 0 ≤ List.length z25), decide (4 ≤ List.length z26)] (.ok ⟨cH, (({ w0 := List.getD z26 0 0, w1 := List.getD z26 1 0, w2 := List.getD z26 2 0, w3 := List.getD z26 3 0 }, ()), ())⟩)))
        (.br (z0)
          (gd [ok0 z27, decide (4 ≤ List.length z29), decide ((4 / 1 : Nat) + 0 ≤ List.length z30), decide (4 ≤ List.length z31)] (.ok ⟨cH, (({ w0 := List.getD z31 0 0, w1 := List.getD z31 1 0, w2 := List.getD z31 2 0, w3 := List.getD z31 3 0 }, ()), ())⟩))
          (gd [ok0 z32, decide (4 ≤ List.length z34), decide ((4 / 1 : Nat) + 0 ≤ List.length z35), decide (4 ≤ List.length z36)] (.ok ⟨cH, (({ w0 := List.getD z36 0 0, w1 := List.getD z36 1 0, w2 := List.getD z36 2 0, w3 := List.getD z36 3 0 }, ()), ())⟩))))
      (.ok ⟨cH, (({ w0 := 0, w1 := 0, w2 := 0, w3 := 0 }, ()), ())⟩))))
theorem aio (ok0 : bL → Bool) (g0_0 : bL → jj) (x : Ek) (Q : fp.Y → Prop) : wpf te wW (bx 0 (dw tf 0 ok0 (zc g0_0)) ay) 1000 Try.f62 (fp.inp.inj x).tm (fp.inp.inj x).hp (fnK fp JE Q) (fun _ _ => False) = (Nz ok0 g0_0 (x.1.1) (x.1.2.1) (x.1.2.2.1)).wpR Q := by kernel_rfl
theorem Ud (ok0 : bL → Bool) (g0_0 : bL → jj) (h0 : ∀ s : bL, ok0 s = true → ∃ m e, aq (pi) m s = some e ∧ (zc g0_0 s).run = some e) (pre : Ek → Bool) (F : Ek → OT fp.Y) (hF : ∀ (x : Ek) oy, pre x = true → (F x).run = some oy → (Nz ok0 g0_0 (x.1.1) (x.1.2.1) (x.1.2.2.1)).run = some oy) : ab Try.prog 62 (fp.aK pre F) :=
  aE au qh CH (f := 62) (fn := Try.f62) (c := al Try.f62) (by kernel_rfl) (by kernel_rfl) (by kernel_rfl) (S := fp) (k := 0) (by kernel_rfl) (fun R hR => (aI (c := (al Try.f62)) (by kernel_rfl) (id := 0) (by kernel_rfl) (bA au qh CH (sh := tf) hR (xs := Ru) (aH (by kernel_rfl) (by kernel_rfl) hR) aX af (n := 1000) (T := pi) (fun s Q => adY s Q) (ok := ok0) (f := zc g0_0) h0) af)) (n := 1000) (sel := JE) (fun v o h => by cases h; rfl) (pre := pre) (F := F) (T := fun x => Nz ok0 g0_0 (x.1.1) (x.1.2.1) (x.1.2.2.1)) (fun x Q => aio ok0 g0_0 x Q) hF
theorem UC {s : Int} (h : s = 0 ∨ s = 1) (a b : aa) : (⟨(ofP (pS s) a).w0 * (ofP (pS s) b).w0 % II s, 0, 0, 0⟩ : aa) = aN (pS s) a b := by
  obtain ⟨hp, h0, h1, _⟩ := tJ h
  rw [hp]
  generalize II s = m at *
  have ha := Nat.mod_lt a.nat h0
  have hb := Nat.mod_lt b.nat h0
  have hc := Nat.mod_lt (a.nat * b.nat) h0
  have hab : a.nat % m.toNat * (b.nat % m.toNat) < 18446744073709551616 := by
    have : a.nat % m.toNat * (b.nat % m.toNat) ≤ 16521217 * 16521217 := Nat.mul_le_mul (by omega) (by omega)
    omega
  unfold aN
  rw [nS (n := a.nat * b.nat % m.toNat) (by omega)]
  have e : (ofP m.toNat a).w0 * (ofP m.toNat b).w0 % m = UInt64.ofNat (a.nat * b.nat % m.toNat) := by
    show UInt64.ofNat (a.nat % m.toNat) * UInt64.ofNat (b.nat % m.toNat) % m = _
    rw [← UInt64.toNat_inj, UInt64.toNat_mod, UInt64.toNat_mul, UInt64.toNat_ofNat', UInt64.toNat_ofNat', UInt64.toNat_ofNat', Nat.mod_eq_of_lt (a := a.nat % m.toNat) (by omega), Nat.mod_eq_of_lt (a := b.nat % m.toNat) (by omega),
      Nat.mod_eq_of_lt (a := a.nat % m.toNat * (b.nat % m.toNat)) (by omega), Nat.mod_eq_of_lt (a := a.nat * b.nat % m.toNat) (by omega), ← Nat.mul_mod]
  rw [e]
def tW (p a b : Nat) (n o : Nat) : Nat := cond (yX b (255 - n)) ((2 * o % p + a) % p) (2 * o % p)
theorem abH (p a b : Nat) (hb : b < 2 ^ 256) : ∀ n, n ≤ 256 → upto (tW p a b) 0 n = a * (b / 2 ^ (256 - n)) % p
  | 0, _ => by
    show 0 = _
    rw [Nat.div_eq_of_lt (by exact hb), Nat.mul_zero, Nat.zero_mod]
  | n + 1, hn => by
    show tW p a b n (upto (tW p a b) 0 n) = _
    rw [abH p a b hb n (by omega)]
    have e1 : 256 - n = (255 - n) + 1 := by omega
    have e2 : 256 - (n + 1) = 255 - n := by omega
    rw [e1, e2, Nat.pow_succ, ← Nat.div_div_eq_div_mul]
    unfold tW yX
    generalize b / 2 ^ (255 - n) = q
    have hd : 2 * (a * (q / 2) % p) % p = a * (2 * (q / 2)) % p := by
      rw [Nat.mul_mod, Nat.mod_mod, ← Nat.mul_mod, Nat.mul_left_comm]
    cases hq : Nat.beq (q % 2) 1
    · simp only [cond_false]
      have : ¬ q % 2 = 1 := fun e => by rw [e] at hq; cases hq
      rw [hd, show 2 * (q / 2) = q by omega]
    · have hq := Nat.eq_of_beq_eq_true hq
      simp only [cond_true]
      rw [hd, Nat.mod_add_mod]
      have e3 : a * (2 * (q / 2)) + a = a * q := by
        rw [← Nat.mul_succ, show (2 * (q / 2)).succ = q by omega]
      rw [e3]
theorem akE {z M : aa} (h : Nat.blt z.nat M.nat = true) : z = ofN (z.nat % M.nat) := by
  rw [Nat.mod_eq_of_lt (cC h), px]
theorem ZW {n m : Nat} (h : Nat.blt n m = false) : m ≤ n := by
  rcases Nat.lt_or_ge n m with h' | h'
  · have : Nat.blt n m = true := Nat.ble_eq_true_of_le h'
    rw [this] at h; cases h
  · exact h'
theorem akD {z M : aa} (h : Nat.blt z.nat M.nat = false) (h2 : z.nat < 2 * M.nat) : (kx z M).1 = ofN (z.nat % M.nat) := by
  have hle := ZW h
  have hz := fU z
  apply js
  rw [lW hle, Nat.mod_eq_sub_mod hle, Nat.mod_eq_of_lt (by omega), gG (by omega)]
theorem sum_nat {a b : aa} (h : a.nat + b.nat < 115792089237316195423570985008687907853269984665640564039457584007913129639936) : (sF a b).1.nat = a.nat + b.nat := gG h
theorem aaK {k : Nat} (hk : k < 64) : (((i2u (k : Int)).toNat : Nat) : Int) = (k : Int) := by
  unfold i2u
  rw [UInt64.toNat_ofNat']
  omega
theorem agh {b : aa} {n : Nat} (hn : n < 256) : (bq (List.getD (lst b) (Int.toNat (Int.tdiv (255 - (n : Int)) 64) + 0) 0) (((i2u (Int.tmod (255 - (n : Int)) 64)).toNat : Nat) : Int) &&& 1 == 1) = yX b.nat (255 - n) := by
  have t0 : (255 : Int) - (n : Int) = ((255 - n : Nat) : Int) := by omega
  rw [t0]
  generalize hk : 255 - n = k
  have hk2 : k < 256 := by omega
  have t1 : Int.tdiv (k : Int) 64 = ((k / 64 : Nat) : Int) := by rw [Int.tdiv_eq_ediv_of_nonneg (by omega)]; omega
  have t2 : Int.tmod (k : Int) 64 = ((k % 64 : Nat) : Int) := by rw [Int.tmod_eq_emod_of_nonneg (by omega)]; omega
  rw [t1, t2, aaK (by omega), PI, fI _ _ (by omega), Int.toNat_natCast, Nat.add_zero]
  have := Tt (a := b) (q := k / 64) (r := k % 64) (by omega) (by omega)
  rw [show 64 * (k / 64) + k % 64 = k by omega] at this
  unfold yX
  rw [← this]
theorem ajZ (e f : aa) : List.set (List.set (List.set (List.set (lst e) 0 f.w0) 1 f.w1) 2 f.w2) 3 f.w3 = lst f := rfl
theorem aj6 (e : aa) : (⟨List.getD (lst e) 0 0, List.getD (lst e) 1 0, List.getD (lst e) 2 0, List.getD (lst e) 3 0⟩ : aa) = e := rfl
def abI (A B : aa) (c2 : List UInt64) (M : aa) (n o : Nat) : bL := (((), (), (), (), (), 255 - (n : Int), ()), (lst A, lst B, c2, lst M, lst (ofN o), ()))
theorem ajE {A B M : aa} {c2 : List UInt64} {n o : Nat} (hn : n < 256) (hA : A.nat < M.nat) (ho : o < M.nat) (hM : 2 * M.nat ≤ 115792089237316195423570985008687907853269984665640564039457584007913129639936) :
    (pi (abI A B c2 M n o)).run = some (.inl (abI A B c2 M (n + 1) (tW M.nat A.nat B.nat n o))) := by
  have e2 : (255 : Int) - (n : Int) - 1 = 255 - ((n + 1 : Nat) : Int) := by omega
  have hO : (ofN o).nat = o := gG (by omega)
  have hz : (sF (ofN o) (ofN o)).1.nat = 2 * o := by rw [sum_nat (by omega), hO]; omega
  have hbit := agh (b := B) hn
  have t0 : (255 : Int) - (n : Int) = ((255 - n : Nat) : Int) := by omega
  have t1 : Int.tdiv (255 - (n : Int)) 64 = (((255 - n) / 64 : Nat) : Int) := by rw [t0, Int.tdiv_eq_ediv_of_nonneg (by omega)]; omega
  have gb : ∀ z : OT (Sum bL aQ), (gd [true && inR (Int.tdiv (255 - (n : Int)) 64), inB (Int.tdiv (255 - (n : Int)) 64) 4, decide (Int.toNat (Int.tdiv (255 - (n : Int)) 64) + 0 < (lst B).length)] z).run = z.run := fun z => ai (by
    simp only [t1, Int.toNat_natCast, Nat.add_zero, cJ, List.all_cons, List.all_nil, Bool.and_true, Bool.true_and, Bool.and_eq_true]
    exact ⟨bC (by omega), bU (by omega), decide_eq_true (by omega)⟩)
  have gb2 : ∀ z : OT (Sum bL aQ), (gd [true, true, true, true && inR (Int.tdiv (255 - (n : Int)) 64), inB (Int.tdiv (255 - (n : Int)) 64) 4, decide (Int.toNat (Int.tdiv (255 - (n : Int)) 64) + 0 < (lst B).length)] z).run = z.run := fun z => ai (by
    simp only [t1, Int.toNat_natCast, Nat.add_zero, cJ, List.all_cons, List.all_nil, Bool.and_true, Bool.true_and, Bool.and_eq_true]
    exact ⟨bC (by omega), bU (by omega), decide_eq_true (by omega)⟩)
  have hi : inR ((255 : Int) - (n : Int) - 1) = true := bC (by omega)
  have gi : ∀ z : OT (Sum bL aQ), (gd [inR ((255 : Int) - (n : Int) - 1)] z).run = z.run := fun z => ai (by simp only [hi, List.all_cons, List.all_nil, Bool.and_true])
  have gi2 : ∀ z : OT (Sum bL aQ), (gd [true, true, true, inR ((255 : Int) - (n : Int) - 1)] z).run = z.run := fun z => ai (by simp only [hi, List.all_cons, List.all_nil, Bool.and_true])
  -- behind the doubling
  have tail : ∀ D : aa, D = ofN (2 * o % M.nat) →
      (OT.br (bq (List.getD (lst B) (Int.toNat (Int.tdiv (255 - (n : Int)) 64) + 0) 0) (((i2u (Int.tmod (255 - (n : Int)) 64)).toNat : Nat) : Int) &&& 1 == 1)
        (gd [true, true, true, true, true] (OT.br (!Nat.blt (sF D A).1.nat M.nat)
          (gd [true, true, true, inR ((255 : Int) - (n : Int) - 1)] (.ok (.inl (((), (), (), (), (), (255 : Int) - (n : Int) - 1, ()), (lst A, lst B, c2, lst M, lst (kx (sF D A).1 M).1, ())))))
          (gd [inR ((255 : Int) - (n : Int) - 1)] (.ok (.inl (((), (), (), (), (), (255 : Int) - (n : Int) - 1, ()), (lst A, lst B, c2, lst M, lst (sF D A).1, ())))))))
        (gd [inR ((255 : Int) - (n : Int) - 1)] (.ok (.inl (((), (), (), (), (), (255 : Int) - (n : Int) - 1, ()), (lst A, lst B, c2, lst M, lst D, ()))))) : OT (Sum bL aQ)).run
      = some (.inl (abI A B c2 M (n + 1) (tW M.nat A.nat B.nat n o))) := fun D hD => by
    rw [hbit, e2]
    rw [e2] at gi gi2
    have hlt := Nat.mod_lt (2 * o) (show 0 < M.nat by omega)
    have hDn : D.nat = 2 * o % M.nat := by rw [hD]; exact gG (by omega)
    have hw : (sF D A).1.nat = 2 * o % M.nat + A.nat := by rw [sum_nat (by omega), hDn]
    unfold tW
    rcases (Bool.eq_false_or_eq_true (yX B.nat (255 - n))).symm with hb | hb
    · rw [hb, hD]
      exact (OT.ax rfl).trans (gi _)
    · rw [hb]
      refine (OT.ao rfl).trans ((ai rfl).trans ?_)
      rcases (Bool.eq_false_or_eq_true (Nat.blt (sF D A).1.nat M.nat)).symm with hc | hc
      · have er := akD hc (by omega)
        rw [hw] at er
        refine (OT.ao (by rw [hc]; rfl)).trans ((gi2 _).trans ?_)
        rw [er]
        rfl
      · have er := akE hc
        rw [hw] at er
        refine (OT.ax (by rw [hc]; rfl)).trans ((gi _).trans ?_)
        rw [er]
        rfl
  show (Gu (255 - (n : Int)) (lst A) (lst B) c2 (lst M) (lst (ofN o))).run = _
  unfold Gu
  simp only [ajZ, aj6, cJ]
  refine (OT.ao (decide_eq_true (by omega))).trans ((ai rfl).trans ?_)
  rcases (Bool.eq_false_or_eq_true (Nat.blt (sF (ofN o) (ofN o)).1.nat M.nat)).symm with hc | hc
  · have er := akD hc (by omega)
    rw [hz] at er
    exact (OT.ao (b := !Nat.blt (sF (ofN o) (ofN o)).1.nat M.nat) (by rw [hc]; rfl)).trans ((gb2 _).trans (tail _ er))
  · have er := akE hc
    rw [hz] at er
    exact (OT.ax (b := !Nat.blt (sF (ofN o) (ofN o)).1.nat M.nat) (by rw [hc]; rfl)).trans ((gb _).trans (tail _ er))
def JF (s : bL) : Bool := decide (s.1.2.2.2.2.2.1 = 255 ∧ s.2.1.length = 4 ∧ s.2.2.1.length = 4 ∧ s.2.2.2.2.1.length = 4 ∧ s.2.2.2.2.2.1 = [0, 0, 0, 0] ∧ (elemOf s.2.1).nat < (elemOf s.2.2.2.2.1).nat ∧ 2 * (elemOf s.2.2.2.2.1).nat ≤ 115792089237316195423570985008687907853269984665640564039457584007913129639936)
def Rv (s : bL) : jj := (((), (), ()), (s.2.2.2.1, lst (ofN ((elemOf s.2.1).nat * (elemOf s.2.2.1).nat % (elemOf s.2.2.2.2.1).nat)), ()))
theorem ad0 : ∀ s : bL, JF s = true → ∃ m e, aq pi m s = some e ∧ (zc Rv s).run = some e := by
  rintro ⟨⟨⟨⟩, ⟨⟩, ⟨⟩, ⟨⟩, ⟨⟩, i, ⟨⟩⟩, ⟨l0, l1, c2, l3, l4, ⟨⟩⟩⟩ h
  have h' := of_decide_eq_true h
  dsimp only at h'
  obtain ⟨rfl, h0, h1, h3, rfl, hA, hM⟩ := h'
  obtain ⟨A, rfl⟩ : ∃ a, l0 = lst a := ⟨elemOf l0, (aZ h0).symm⟩
  obtain ⟨B, rfl⟩ : ∃ a, l1 = lst a := ⟨elemOf l1, (aZ h1).symm⟩
  obtain ⟨M, rfl⟩ : ∃ a, l3 = lst a := ⟨elemOf l3, (aZ h3).symm⟩
  have hA : A.nat < M.nat := hA
  have := (bI (T := pi) (abI A B c2 M) (tW M.nat A.nat B.nat)
    (fun o => (⟨(.exit 0, ph), (((), (), ()), (c2, lst (ofN o), ()))⟩ : aQ)) 256 0 (fun _ o => o < M.nat) (by omega) (fun n o hn ho => ⟨ajE hn hA ho hM, ?_⟩) (fun o ho => ?_)).1
  · rw [abH M.nat A.nat B.nat (fU B) 256 (by omega), Nat.sub_self, Nat.pow_zero, Nat.div_one] at this
    obtain ⟨m, hm⟩ := this
    exact ⟨m, _, hm, rfl⟩
  · unfold tW
    cases yX B.nat (255 - n)
    · exact Nat.mod_lt _ (by omega)
    · exact Nat.mod_lt _ (by omega)
  · exact OT.ax (decide_eq_false (by dsimp only [abI]; omega))
def b6 (x : Ek) : Bool := aj x.1.1
def Zn (x : Ek) : OT fp.Y := .ok ⟨cH, ((aN (pS x.1.1) x.1.2.1 x.1.2.2.1, ()), ())⟩
theorem Z0 {s : Int} (hs : aj s = true) (a b : aa) : ofN ((ofP (pS s) a).nat * (ofP (pS s) b).nat % pS s) = aN (pS s) a b := by
  have hp := fc hs
  unfold ofP aN
  rw [cv hp, cv hp, ← Nat.mul_mod]
theorem adZ : ab Try.prog 62 (fp.aK b6 Zn) := Ud JF Rv ad0 _ _ fun x oy hp ho => by
  rw [← ho]
  clear ho
  obtain ⟨⟨s, a, b, ⟨⟩⟩, ⟨⟩⟩ := x
  have hs : aj s = true := hp
  show _ = some (⟨cH, ((aN (pS s) a b, ()), ())⟩ : fp.Y)
  have little : (s = 0 ∨ s = 1) → (gd [!(II s == 0)] (.ok ⟨cH, ((⟨(ofP (pS s) a).w0 * (ofP (pS s) b).w0 % II s, 0, 0, 0⟩, ()), ())⟩) : OT fp.Y).run = some (⟨cH, ((aN (pS s) a b, ()), ())⟩ : fp.Y) := fun h => by
    obtain ⟨_, _, _, hz⟩ := tJ h
    rw [UC h]
    exact ai (by simp only [hz, List.all_cons, List.all_nil, Bool.and_true])
  by_cases h0 : s = 0
  · exact (OT.ao (by simpa using h0)).trans ((OT.ao hs).trans ((OT.ao hs).trans (little (.inl h0))))
  · refine (OT.ax (by simpa using h0)).trans ?_
    by_cases h1 : s = 1
    · exact (OT.ao (by simpa using h1)).trans ((OT.ao hs).trans ((OT.ao hs).trans (little (.inr h1))))
    · refine (OT.ax (by simpa using h1)).trans ((OT.ao hs).trans ((OT.ao hs).trans ((OT.ao hs).trans ?_)))
      have hpp := fc hs
      have hA : (ofP (pS s) a).nat < pS s := by
        show (ofN _).nat < _
        rw [cv hpp]
        exact Nat.mod_lt _ hpp.1
      refine (ai ?_).trans ?_
      · simp only [List.all_cons, List.all_nil, Bool.and_true, Bool.and_eq_true]
        exact ⟨decide_eq_true ⟨rfl, rfl, rfl, rfl, rfl, hA, (by show 2 * pS s ≤ _; omega)⟩, rfl, rfl, rfl⟩
      · rw [← Z0 hs]
        show some (⟨cH, ((elemOf (lay [0, 0, 0, 0] (lst (ofN ((ofP (pS s) a).nat * (ofP (pS s) b).nat % pS s))) 4 0), ()), ())⟩ : fp.Y) = _
        rw [aj1 _ _ rfl rfl]
        rfl
def vz : cK := (fp.aK b6 Zn)
theorem Ny : ab Try.prog 62 vz := adZ
theorem Nx : aL vz := aD
def sf : Env := aA 62 vz wW
theorem lO : aW Try.prog sf := ag Ny qh
theorem yg : av sf := ac Nx yd
theorem se : bm Try.prog te sf := aP follows au lO yg
def gE : ap := ⟨[.val false .int, .val true .elem, .val true .elem], [], true, 0, false⟩
abbrev Ev : Type := ((Int) × (aa) × (aa) × Unit) × (Unit)
def tl : Shape := ⟨53, [(0, .val false .int), (4, .ptr 0 0 0), (5, .ptr 1 0 0), (6, .ptr 2 0 0), (7, .ptr 3 0 0), (8, .val false .int)], [(0, .row .u64), (1, .row .u64), (2, .row .u64), (3, .row .u64)], 0, true⟩
abbrev cq : Type := ((Int) × (Unit) × (Unit) × (Unit) × (Unit) × (Int) × Unit) × ((List (UInt64)) × (List (UInt64)) × (List (UInt64)) × (List (UInt64)) × Unit)
def kU : Shape := ⟨53, [(0, .val false .int), (4, .ptr 0 0 0), (5, .ptr 1 0 0), (6, .ptr 2 0 0), (7, .ptr 3 0 0), (8, .val false .int)], [(0, .row .u64), (1, .row .u64), (2, .row .u64), (3, .row .u64)], 0, true⟩
abbrev jp : Type := ((Int) × (Unit) × (Unit) × (Unit) × (Unit) × (Int) × Unit) × ((List (UInt64)) × (List (UInt64)) × (List (UInt64)) × (List (UInt64)) × Unit)
def RB : SE → Option Shape := ku [(0, kU)] none
def aea (a0 : Int) (a8 : Int) (c0 : List (UInt64)) (c1 : List (UInt64)) (c2 : List (UInt64)) (c3 : List (UInt64)) : OT (Sum cq aQ) :=
  let z0 : Int := Int.tdiv a8 (64 : Int)
  (.br (decide ((0 : Int) ≤ a8))
  (gd [true && inR z0, inB z0 4, decide (Int.toNat z0 + 0 < List.length c1)] (.br (bq (List.getD c1 (Int.toNat z0 + 0) (0 : UInt64)) (↑(UInt64.toNat (i2u (Int.tmod a8 (64 : Int)))) : Int) &&& (1 : UInt64) == (0 : UInt64))
    (gd [inR (a8 - (1 : Int))] (.ok (.inl ((a0, ((), ((), ((), ((), (a8 - (1 : Int), ())))))), (c0, (c1, (c2, (c3, ()))))))))
    (.ok (.inr ⟨(.exit 0, kU), ((a0, ((), ((), ((), ((), (a8, ())))))), (c0, (c1, (c2, (c3, ())))))⟩))))
  (.ok (.inr ⟨(.exit 0, kU), ((a0, ((), ((), ((), ((), (a8, ())))))), (c0, (c1, (c2, (c3, ())))))⟩)))
def tn (s : cq) : OT (Sum cq aQ) := aea (s.1.1) (s.1.2.2.2.2.2.1) (s.2.1) (s.2.2.1) (s.2.2.2.1) (s.2.2.2.2.1)
theorem ad6 (s : cq) (Q : Sum cq aQ → Prop) : wps te sf ay 1000 (bJ (al Try.f104) 0) (tl.inj s) (cW tl RB (Q : Sum tl.T aQ → Prop)) = (tn s).wpR Q := by kernel_rfl
def zf (g0_0 : cq → jp) (s : cq) : OT aQ := (.ok ⟨(.exit 0, kU), g0_0 s⟩)
def tk : Shape := ⟨53, [(0, .val false .int), (4, .ptr 0 0 0), (5, .ptr 1 0 0), (6, .ptr 2 0 0), (7, .ptr 3 0 0), (9, .val false .int)], [(0, .row .u64), (1, .row .u64), (2, .row .u64), (3, .row .u64)], 0, true⟩
abbrev cB : Type := ((Int) × (Unit) × (Unit) × (Unit) × (Unit) × (Int) × Unit) × ((List (UInt64)) × (List (UInt64)) × (List (UInt64)) × (List (UInt64)) × Unit)
def pn : Shape := ⟨53, [(6, .ptr 0 0 0), (7, .ptr 1 0 0)], [(0, .row .u64), (1, .row .u64)], 0, true⟩
abbrev jo : Type := ((Unit) × (Unit) × Unit) × ((List (UInt64)) × (List (UInt64)) × Unit)
def RA : SE → Option Shape := ku [(2, pn)] none
def Gz (a0 : Int) (a9 : Int) (c0 : List (UInt64)) (c1 : List (UInt64)) (c2 : List (UInt64)) (c3 : List (UInt64)) : OT (Sum cB aQ) :=
  let z0 : Nat := List.length c3
  let z1 : Bool := decide (4 ≤ z0)
  let z2 : aa := { w0 := List.getD c3 0 0, w1 := List.getD c3 1 0, w2 := List.getD c3 2 0, w3 := List.getD c3 3 0 }
  let z3 : Int := Int.tdiv a9 (64 : Int)
  let z4 : Nat := pS a0
  let z5 : aa := aN z4 z2 z2
  let z6 : List UInt64 := List.set (List.set (List.set (List.set c3 0 z5.w0) 1 z5.w1) 2 z5.w2) 3 z5.w3
  let z7 : Nat := List.length z6
  let z8 : aa := { w0 := List.getD z6 0 0, w1 := List.getD z6 1 0, w2 := List.getD z6 2 0, w3 := List.getD z6 3 0 }
  let z9 : aa := { w0 := List.getD c0 0 0, w1 := List.getD c0 1 0, w2 := List.getD c0 2 0, w3 := List.getD c0 3 0 }
  let z10 : Bool := inR (a9 - (1 : Int))
  let z11 : aa := aN z4 z8 z9
  (.br (decide ((0 : Int) ≤ a9))
  (gd [z1, z1, b6 ((a0, z2, z2, ()), ()), decide ((4 / 1 : Nat) + 0 ≤ z0), true && inR z3, inB z3 4, decide (Int.toNat z3 + 0 < List.length c1)] (.br (bq (List.getD c1 (Int.toNat z3 + 0) (0 : UInt64)) (↑(UInt64.toNat (i2u (Int.tmod a9 (64 : Int)))) : Int) &&& (1 : UInt64) == (1 : UInt64))
    (gd [decide (4 ≤ z7), decide (4 ≤ List.length c0), b6 ((a0, z8, z9, ()), ()), decide ((4 / 1 : Nat) + 0 ≤ z7), z10] (.ok (.inl ((a0, ((), ((), ((), ((), (a9 - (1 : Int), ())))))), (c0, (c1, (c2, (List.set (List.set (List.set (List.set z6 0 z11.w0) 1 z11.w1) 2 z11.w2) 3 z11.w3, ()))))))))
    (gd [z10] (.ok (.inl ((a0, ((), ((), ((), ((), (a9 - (1 : Int), ())))))), (c0, (c1, (c2, (z6, ()))))))))))
  (.ok (.inr ⟨(.exit 2, pn), (((), ((), ())), (c2, (c3, ())))⟩)))
def po (s : cB) : OT (Sum cB aQ) := Gz (s.1.1) (s.1.2.2.2.2.2.1) (s.2.1) (s.2.2.1) (s.2.2.2.1) (s.2.2.2.2.1)
theorem ad5 (s : cB) (Q : Sum cB aQ → Prop) : wps te sf ay 1000 (bJ (al Try.f104) 2) (tk.inj s) (cW tk RA (Q : Sum tk.T aQ → Prop)) = (po s).wpR Q := by kernel_rfl
def zd (g2_2 : cB → jo) (s : cB) : OT aQ := (.ok ⟨(.exit 2, pn), g2_2 s⟩)
def pl : az := ⟨[.val true .elem], [], false⟩
def JT : SV → Option az := fun _ => some pl
def NT (ok0 : cq → Bool) (g0_0 : cq → jp) (ok2 : cB → Bool) (g2_2 : cB → jo) (a0 : Int) (a1 : aa) (a2 : aa) : OT gE.Y :=
  let z0 : Int × PUnit × PUnit × PUnit × PUnit × Int × PUnit := (a0, (), (), (), (), (255 : Int), ())
  let z1 : aa := ofP (pS a0) { w0 := 1, w1 := 0, w2 := 0, w3 := 0 }
  let z2 : (Int × PUnit × PUnit × PUnit × PUnit × Int × PUnit) × List UInt64 × List UInt64 × List UInt64 × List UInt64 × PUnit := (z0, [a1.w0, a1.w1, a1.w2, a1.w3], [a2.w0, a2.w1, a2.w2, a2.w3], [(0 : UInt64), (0 : UInt64), (0 : UInt64), (0 : UInt64)], [z1.w0, z1.w1, z1.w2, z1.w3], ())
  let z3 : (Int × PUnit × PUnit × PUnit × PUnit × Int × PUnit) × List UInt64 × List UInt64 × List UInt64 × List UInt64 × PUnit := g0_0 z2
  let z4 := z3.fst
  let z5 := z3.snd
  let z6 := z5.snd
  let z7 := z6.snd
  let z8 : (Int × PUnit × PUnit × PUnit × PUnit × Int × PUnit) × List UInt64 × List UInt64 × List UInt64 × List UInt64 × PUnit := ((z4.fst, (), (), (), (), z4.snd.snd.snd.snd.snd.fst, ()), z5.fst, z6.fst, z7.fst, z7.snd.fst, ())
  let z9 := (g2_2 z8).snd
  let z10 := z9.snd.fst
  let z11 := z9.fst
  let z12 : List UInt64 := lay z11 z10 4 (0 : UInt64)
  let z13 : (Int × PUnit × PUnit × PUnit × PUnit × Int × PUnit) × List UInt64 × List UInt64 × List UInt64 × List UInt64 × PUnit := (z0, [a1.w0, a1.w1, a1.w2, a1.w3], [a2.w0, a2.w1, a2.w2, a2.w3], [(0 : UInt64), (0 : UInt64), (0 : UInt64), (0 : UInt64)], [(0 : UInt64), (0 : UInt64), (0 : UInt64), (0 : UInt64)], ())
  let z14 : (Int × PUnit × PUnit × PUnit × PUnit × Int × PUnit) × List UInt64 × List UInt64 × List UInt64 × List UInt64 × PUnit := g0_0 z13
  let z15 := z14.fst
  let z16 := z14.snd
  let z17 := z16.snd
  let z18 := z17.snd
  let z19 : (Int × PUnit × PUnit × PUnit × PUnit × Int × PUnit) × List UInt64 × List UInt64 × List UInt64 × List UInt64 × PUnit := ((z15.fst, (), (), (), (), z15.snd.snd.snd.snd.snd.fst, ()), z16.fst, z17.fst, z18.fst, z18.snd.fst, ())
  let z20 := (g2_2 z19).snd
  let z21 := z20.snd.fst
  let z22 := z20.fst
  let z23 : List UInt64 := lay z22 z21 4 (0 : UInt64)
  (.br (aj a0)
  (gd [ok0 z2, ok2 z8, decide (4 ≤ List.length z10), decide ((4 / 1 : Nat) + 0 ≤ List.length z11), decide (4 ≤ List.length z12)] (.ok ⟨pl, (({ w0 := List.getD z12 0 0, w1 := List.getD z12 1 0, w2 := List.getD z12 2 0, w3 := List.getD z12 3 0 }, ()), ())⟩))
  (gd [ok0 z13, ok2 z19, decide (4 ≤ List.length z21), decide ((4 / 1 : Nat) + 0 ≤ List.length z22), decide (4 ≤ List.length z23)] (.ok ⟨pl, (({ w0 := List.getD z23 0 0, w1 := List.getD z23 1 0, w2 := List.getD z23 2 0, w3 := List.getD z23 3 0 }, ()), ())⟩)))
theorem ait (ok0 : cq → Bool) (g0_0 : cq → jp) (ok2 : cB → Bool) (g2_2 : cB → jo) (x : Ev) (Q : gE.Y → Prop) : wpf te sf (bx 2 (dw tk 2 ok2 (zd g2_2)) (bx 0 (dw tl 0 ok0 (zf g0_0)) ay)) 1000 Try.f104 (gE.inp.inj x).tm (gE.inp.inj x).hp (fnK gE JT Q) (fun _ _ => False) = (NT ok0 g0_0 ok2 g2_2 (x.1.1) (x.1.2.1) (x.1.2.2.1)).wpR Q := by kernel_rfl
theorem Un (ok0 : cq → Bool) (g0_0 : cq → jp) (ok2 : cB → Bool) (g2_2 : cB → jo) (h0 : ∀ s : cq, ok0 s = true → ∃ m e, aq (tn) m s = some e ∧ (zf g0_0 s).run = some e) (h2 : ∀ s : cB, ok2 s = true → ∃ m e, aq (po) m s = some e ∧ (zd g2_2 s).run = some e) (pre : Ev → Bool) (F : Ev → OT gE.Y) (hF : ∀ (x : Ev) oy, pre x = true → (F x).run = some oy → (NT ok0 g0_0 ok2 g2_2 (x.1.1) (x.1.2.1) (x.1.2.2.1)).run = some oy) : ab Try.prog 104 (gE.aK pre F) :=
  aE au lO se (f := 104) (fn := Try.f104) (c := al Try.f104) (by kernel_rfl) (by kernel_rfl) (by kernel_rfl) (S := gE) (k := 0) (by kernel_rfl) (fun R hR => (aI (c := (al Try.f104)) (by kernel_rfl) (id := 2) (by kernel_rfl) (bA au lO se (sh := tk) hR (xs := RA) (aH (by kernel_rfl) (by kernel_rfl) hR) aX af (n := 1000) (T := po) (fun s Q => ad5 s Q) (ok := ok2) (f := zd g2_2) h2) (aI (c := (al Try.f104)) (by kernel_rfl) (id := 0) (by kernel_rfl) (bA au lO se (sh := tl) hR (xs := RB) (aH (by kernel_rfl) (by kernel_rfl) hR) aX af (n := 1000) (T := tn) (fun s Q => ad6 s Q) (ok := ok0) (f := zf g0_0) h0) af))) (n := 1000) (sel := JT) (fun v o h => by cases h; rfl) (pre := pre) (F := F) (T := fun x => NT ok0 g0_0 ok2 g2_2 (x.1.1) (x.1.2.1) (x.1.2.2.1)) (fun x Q => ait ok0 g0_0 ok2 g2_2 x Q) hF
theorem GF {p : Nat} : ∀ (n o x k : Nat), k < 2 ^ n → o < p → afS p n o x k = o * x ^ k % p
  | 0, o, x, k, hk, ho => by
    have : k = 0 := by omega
    subst this
    show o = _
    rw [Nat.pow_zero, Nat.mul_one, Nat.mod_eq_of_lt ho]
  | n + 1, o, x, k, hk, ho => by
    unfold afS
    rw [Nat.pow_succ] at hk
    cases h0 : Nat.beq k 0
    · simp only [cond_false]
      have hsq : (x * x % p) ^ (k / 2) % p = x ^ (2 * (k / 2)) % p := by
        rw [← Nat.pow_mod, Nat.pow_mul, Nat.pow_two]
      cases h1 : Nat.beq (k % 2) 1
      · have h1' : ¬ k % 2 = 1 := fun e => by rw [e] at h1; cases h1
        simp only [cond_false]
        rw [GF n _ _ _ (by omega) ho, Nat.mul_mod, hsq, ← Nat.mul_mod, show 2 * (k / 2) = k by omega]
      · have h1 := Nat.eq_of_beq_eq_true h1
        simp only [cond_true]
        rw [GF n _ _ _ (by omega) (Nat.mod_lt _ (by omega)), Nat.mul_mod, hsq, Nat.mod_mod, ← Nat.mul_mod, Nat.mul_assoc, ← Nat.pow_succ', show (2 * (k / 2)).succ = k by omega]
    · have h0 := Nat.eq_of_beq_eq_true h0
      subst h0
      simp only [cond_true]
      rw [Nat.pow_zero, Nat.mul_one, Nat.mod_eq_of_lt ho]
theorem ajw {p : Nat} (hp : 1 < p) (a k : aa) : u6 p a k = ofN (a.nat ^ k.nat % p) := by
  rw [HH (by omega), GF 256 1 _ _ (fU k) hp, Nat.one_mul, ← Nat.pow_mod]
theorem al3 {b : aa} {k : Nat} (hk : k < 256) : (bq (List.getD (lst b) (Int.toNat (Int.tdiv (k : Int) 64) + 0) 0) (((i2u (Int.tmod (k : Int) 64)).toNat : Nat) : Int) &&& 1 == 1) = yX b.nat k := by
  have h := agh (b := b) (n := 255 - k) (by omega)
  rw [show (255 : Int) - ((255 - k : Nat) : Int) = (k : Int) by omega, show 255 - (255 - k) = k by omega] at h
  exact h
theorem Tw (x : UInt64) : (x &&& 1 == 0) = !(x &&& 1 == 1) := by
  have h := PI x
  have e : (x &&& 1).toNat = x.toNat % 2 := by
    rw [UInt64.toNat_and]
    exact Nat.and_two_pow_sub_one_eq_mod x.toNat 1
  have h2 : x.toNat % 2 = 0 ∨ x.toNat % 2 = 1 := by omega
  rcases h2 with h2 | h2
  · have : x &&& 1 = 0 := UInt64.toNat_inj.1 (by rw [e, h2]; rfl)
    rw [this]; rfl
  · have : x &&& 1 = 1 := UInt64.toNat_inj.1 (by rw [e, h2]; rfl)
    rw [this]; rfl
def TT (e : Nat) : Nat → Int
  | 0 => -1
  | n + 1 => cond (yX e n) (n : Int) (TT e n)
theorem H9 {e n : Nat} (h : yX e n = false) : e / 2 ^ n % 2 = 0 := by
  unfold yX at h
  have : ¬ e / 2 ^ n % 2 = 1 := fun e => by rw [e] at h; cases h
  omega
theorem zJ (e : Nat) : ∀ n, e / 2 ^ n = 0 → ∃ t : Nat, TT e n = (t : Int) - 1 ∧ t ≤ n ∧ e / 2 ^ t = 0
  | 0, h => ⟨0, rfl, Nat.le_refl _, h⟩
  | n + 1, h => by
    unfold TT
    cases hb : yX e n
    · simp only [cond_false]
      have h0 := H9 hb
      have h1 : e / 2 ^ n / 2 = 0 := by rw [Nat.div_div_eq_div_mul, ← Nat.pow_succ]; exact h
      obtain ⟨t, e1, e2, e3⟩ := zJ e n (by omega)
      exact ⟨t, e1, by omega, e3⟩
    · exact ⟨n + 1, by simp only [cond_true]; omega, Nat.le_refl _, h⟩
def DT (s : Int) (A B : aa) (c2 : List UInt64) (O : aa) (i : Int) : cq := ((s, (), (), (), (), i, ()), (lst A, lst B, c2, lst O, ()))
theorem ae2 {B : aa} {k : Nat} (hk : k < 256) {α : Type} (z : OT α) : (gd [true && inR (Int.tdiv (k : Int) 64), inB (Int.tdiv (k : Int) 64) 4, decide (Int.toNat (Int.tdiv (k : Int) 64) + 0 < (lst B).length)] z).run = z.run := by
  have t1 : Int.tdiv (k : Int) 64 = ((k / 64 : Nat) : Int) := by rw [Int.tdiv_eq_ediv_of_nonneg (by omega)]; omega
  refine ai ?_
  simp only [t1, Int.toNat_natCast, Nat.add_zero, cJ, List.all_cons, List.all_nil, Bool.and_true, Bool.true_and, Bool.and_eq_true]
  exact ⟨bC (by omega), bU (by omega), decide_eq_true (by omega)⟩
theorem SX (s : Int) (A B : aa) (c2 : List UInt64) (O : aa) : ∀ n : Nat, n ≤ 256 → ∃ m, aq tn m (DT s A B c2 O ((n : Int) - 1)) = some ⟨(.exit 0, kU), DT s A B c2 O (TT B.nat n)⟩
  | 0, _ => ⟨1, aT (OT.ax (decide_eq_false (by dsimp only [DT]; omega)))⟩
  | n + 1, hn => by
    have e1 : ((n + 1 : Nat) : Int) - 1 = (n : Int) := by omega
    rw [e1]
    have hb := al3 (b := B) (k := n) (by omega)
    unfold TT
    rcases (Bool.eq_false_or_eq_true (yX B.nat n)).symm with h | h
    · obtain ⟨m, hm⟩ := SX s A B c2 O n (by omega)
      rw [h] at hb ⊢
      refine ⟨m + 1, aO ?_ hm⟩
      refine (OT.ao (decide_eq_true (by dsimp only [DT]; omega))).trans ((ae2 (B := B) (k := n) (by omega) _).trans ((OT.ao ?_).trans ((ai ?_).trans rfl)))
      · exact (Tw _).trans (congrArg Bool.not hb)
      · simp only [List.all_cons, List.all_nil, Bool.and_true]
        exact bC (by dsimp only [DT]; omega)
    · rw [h] at hb ⊢
      refine ⟨1, aT ?_⟩
      refine (OT.ao (decide_eq_true (by dsimp only [DT]; omega))).trans ((ae2 (B := B) (k := n) (by omega) _).trans ((OT.ax ?_).trans rfl))
      exact (Tw _).trans (congrArg Bool.not hb)
def JU (s : cq) : Bool := decide (s.1.2.2.2.2.2.1 = 255 ∧ s.2.1.length = 4 ∧ s.2.2.1.length = 4 ∧ s.2.2.2.2.1.length = 4)
def RD (s : cq) : jp := ((s.1.1, (), (), (), (), TT (elemOf s.2.2.1).nat 256, ()), s.2)
theorem ad9 : ∀ s : cq, JU s = true → ∃ m e, aq tn m s = some e ∧ (zf RD s).run = some e := by
  rintro ⟨⟨s, ⟨⟩, ⟨⟩, ⟨⟩, ⟨⟩, i, ⟨⟩⟩, ⟨l0, l1, c2, l3, ⟨⟩⟩⟩ h
  have h' := of_decide_eq_true h
  dsimp only at h'
  obtain ⟨rfl, h0, h1, h3⟩ := h'
  obtain ⟨A, rfl⟩ : ∃ a, l0 = lst a := ⟨elemOf l0, (aZ h0).symm⟩
  obtain ⟨B, rfl⟩ : ∃ a, l1 = lst a := ⟨elemOf l1, (aZ h1).symm⟩
  obtain ⟨O, rfl⟩ : ∃ a, l3 = lst a := ⟨elemOf l3, (aZ h3).symm⟩
  obtain ⟨m, hm⟩ := SX s A B c2 O 256 (by omega)
  exact ⟨m, _, hm, rfl⟩
theorem ajx {s : Int} (hs : aj s = true) (A B : aa) (c2 : List UInt64) (O : aa) {k : Nat} (hk : k < 256) (hO : O = ofN (A.nat ^ (B.nat / 2 ^ (k + 1)) % pS s)) :
    (po (DT s A B c2 O (k : Int))).run = some (.inl (DT s A B c2 (ofN (A.nat ^ (B.nat / 2 ^ k) % pS s)) ((k : Int) - 1))) := by
  have hp := fc hs
  have hb := al3 (b := B) (k := k) hk
  have t1 : Int.tdiv (k : Int) 64 = ((k / 64 : Nat) : Int) := by rw [Int.tdiv_eq_ediv_of_nonneg (by omega)]; omega
  have hOn : O.nat = A.nat ^ (B.nat / 2 ^ (k + 1)) % pS s := by rw [hO]; exact cv hp
  have hi : inR ((k : Int) - 1) = true := bC (by omega)
  have hpre : ∀ x y, b6 ((s, x, y, ()), ()) = true := fun _ _ => hs
  have hD : aN (pS s) O O = ofN (A.nat ^ (2 * (B.nat / 2 ^ (k + 1))) % pS s) := by
    unfold aN
    rw [hOn, ← Nat.mul_mod, ← Nat.pow_add, ← Nat.two_mul]
  have hq : B.nat / 2 ^ k / 2 = B.nat / 2 ^ (k + 1) := by rw [Nat.div_div_eq_div_mul, ← Nat.pow_succ]
  show (Gz s (k : Int) (lst A) (lst B) c2 (lst O)).run = _
  unfold Gz
  simp only [ajZ, aj6, cJ, hpre, hi]
  refine (OT.ao (decide_eq_true (by omega))).trans ((ai ?_).trans ?_)
  · simp only [t1, Int.toNat_natCast, Nat.add_zero, cJ, List.all_cons, List.all_nil, Bool.and_true, Bool.true_and, Bool.and_eq_true]
    exact ⟨rfl, rfl, rfl, bC (by omega), bU (by omega), decide_eq_true (by omega)⟩
  · rcases (Bool.eq_false_or_eq_true (yX B.nat k)).symm with h | h
    · have h0 := H9 h
      rw [h] at hb
      refine (OT.ax hb).trans ((ai rfl).trans ?_)
      rw [hD, ← hq, show 2 * (B.nat / 2 ^ k / 2) = B.nat / 2 ^ k by omega]
      rfl
    · have h0 : B.nat / 2 ^ k % 2 = 1 := Nat.eq_of_beq_eq_true h
      rw [h] at hb
      refine (OT.ao hb).trans ((ai rfl).trans ?_)
      have e : aN (pS s) (aN (pS s) O O) A = ofN (A.nat ^ (B.nat / 2 ^ k) % pS s) := by
        have e2 : (aN (pS s) O O).nat = A.nat ^ (2 * (B.nat / 2 ^ (k + 1))) % pS s := by rw [hD]; exact cv hp
        show ofN (_ * _ % _) = _
        rw [e2, Nat.mod_mul_mod, ← Nat.pow_succ, ← hq, show (2 * (B.nat / 2 ^ k / 2)).succ = B.nat / 2 ^ k by omega]
      rw [e]
      rfl
theorem SW {s : Int} (hs : aj s = true) (A B : aa) (c2 : List UInt64) : ∀ (n : Nat) (O : aa), n ≤ 256 → O = ofN (A.nat ^ (B.nat / 2 ^ n) % pS s) →
    ∃ m, aq po m (DT s A B c2 O ((n : Int) - 1)) = some ⟨(.exit 2, pn), (((), (), ()), (c2, lst (ofN (A.nat ^ B.nat % pS s)), ()))⟩
  | 0, O, _, hO => by
    rw [Nat.pow_zero, Nat.div_one] at hO
    rw [← hO]
    exact ⟨1, aT (OT.ax (decide_eq_false (by dsimp only [DT]; omega)))⟩
  | n + 1, O, hn, hO => by
    obtain ⟨m, hm⟩ := SW hs A B c2 n (ofN (A.nat ^ (B.nat / 2 ^ n) % pS s)) (by omega) rfl
    rw [show ((n + 1 : Nat) : Int) - 1 = (n : Int) by omega]
    exact ⟨m + 1, aO (ajx hs A B c2 O (by omega) hO) hm⟩
def Ao (s : cB) : Bool := aj s.1.1 && decide (s.1.2.2.2.2.2.1 = TT (elemOf s.2.2.1).nat 256 ∧ s.2.1.length = 4 ∧ s.2.2.1.length = 4 ∧ s.2.2.2.2.1 = lst (ofP (pS s.1.1) ⟨1, 0, 0, 0⟩))
def RC (s : cB) : jo := (((), (), ()), (s.2.2.2.1, lst (ofN ((elemOf s.2.1).nat ^ (elemOf s.2.2.1).nat % pS s.1.1)), ()))
theorem ad8 : ∀ s : cB, Ao s = true → ∃ m e, aq po m s = some e ∧ (zd RC s).run = some e := by
  rintro ⟨⟨s, ⟨⟩, ⟨⟩, ⟨⟩, ⟨⟩, i, ⟨⟩⟩, ⟨l0, l1, c2, l3, ⟨⟩⟩⟩ h
  simp only [Ao, Bool.and_eq_true, decide_eq_true_eq] at h
  obtain ⟨hs, rfl, h0, h1, rfl⟩ := h
  obtain ⟨A, rfl⟩ : ∃ a, l0 = lst a := ⟨elemOf l0, (aZ h0).symm⟩
  obtain ⟨B, rfl⟩ : ∃ a, l1 = lst a := ⟨elemOf l1, (aZ h1).symm⟩
  obtain ⟨t, e1, e2, e3⟩ := zJ B.nat 256 (Nat.div_eq_of_lt (fU B))
  obtain ⟨m, hm⟩ := SW hs A B c2 t (ofP (pS s) ⟨1, 0, 0, 0⟩) e2 (by rw [e3, Nat.pow_zero]; rfl)
  rw [← e1] at hm
  exact ⟨m, _, hm, rfl⟩
theorem akN {s : Int} (h : aj s = true) : 1 < pS s := afU h
def jn (x : Ev) : Bool := aj x.1.1
def Zy (x : Ev) : OT gE.Y := .ok ⟨pl, ((u6 (pS x.1.1) x.1.2.1 x.1.2.2.1, ()), ())⟩
theorem ad7 : ab Try.prog 104 (gE.aK jn Zy) := Un JU RD Ao RC ad9 ad8 _ _ fun x oy hp ho => by
  rw [← ho]
  clear ho
  obtain ⟨⟨s, a, b, ⟨⟩⟩, ⟨⟩⟩ := x
  have hs : aj s = true := hp
  show _ = some (⟨pl, ((u6 (pS s) a b, ()), ())⟩ : gE.Y)
  rw [ajw (akN hs)]
  refine (OT.ao hs).trans ((ai ?_).trans ?_)
  · simp only [List.all_cons, List.all_nil, Bool.and_true, Bool.and_eq_true]
    refine ⟨decide_eq_true ⟨rfl, rfl, rfl, rfl⟩, ?_, rfl, rfl, rfl⟩
    refine (Bool.and_eq_true _ _).mpr ⟨hs, ?_⟩
    exact decide_eq_true ⟨rfl, rfl, rfl, rfl⟩
  · show some (⟨pl, ((elemOf (lay [0, 0, 0, 0] (lst (ofN (a.nat ^ b.nat % pS s))) 4 0), ()), ())⟩ : gE.Y) = _
    rw [aj1 _ _ rfl rfl]
    rfl
def vJ : cK := (gE.aK jn Zy)
theorem NS : ab Try.prog 104 vJ := ad7
theorem NR : aL vJ := aD
def CR : Env := aA 104 vJ sf
theorem xf : aW Try.prog CR := ag NS lO
theorem ym : av CR := ac NR yg
theorem P7 : bm Try.prog te CR := aP follows au xf ym
def il : ap := ⟨[.val false .int, .val true .elem], [], true, 0, false⟩
abbrev Eo : Type := ((Int) × (aa) × Unit) × (Unit)
def iD : az := ⟨[.val true .elem, .val false .int], [], false⟩
def JN : SV → Option az := fun _ => some iD
def NI (a0 : Int) (a1 : aa) : OT il.Y :=
  let z0 : Bool := aj a0
  let z1 : Nat := pS a0
  let z2 : aa := ofP z1 a1
  let z3 : aa := { w0 := 0, w1 := 0, w2 := 0, w3 := 0 }
  let z4 : aa := (kx (bM (Int.toNat a0)).fst { w0 := 2, w1 := 0, w2 := 0, w3 := 0 }).fst
  (.br (z0)
  (.br (z0)
    (.br (z2.w0 == (0 : UInt64) && (z2.w1 == (0 : UInt64) && (z2.w2 == (0 : UInt64) && (z2.w3 == (0 : UInt64) && true))))
      (.ok ⟨iD, ((z3, ((10 : Int), ())), ())⟩)
      (gd [jn ((a0, a1, z4, ()), ())] (.ok ⟨iD, ((u6 z1 a1 z4, ((0 : Int), ())), ())⟩)))
    (.ok ⟨iD, ((z3, ((10 : Int), ())), ())⟩))
  (.ok ⟨iD, ((z3, ((20 : Int), ())), ())⟩))
theorem air (x : Eo) (Q : il.Y → Prop) : wpf te CR ay 1000 Try.f108 (il.inp.inj x).tm (il.inp.inj x).hp (fnK il JN Q) (fun _ _ => False) = (NI (x.1.1) (x.1.2.1)).wpR Q := by kernel_rfl
theorem Uk (pre : Eo → Bool) (F : Eo → OT il.Y) (hF : ∀ (x : Eo) oy, pre x = true → (F x).run = some oy → (NI (x.1.1) (x.1.2.1)).run = some oy) : ab Try.prog 108 (il.aK pre F) :=
  aE au xf P7 (f := 108) (fn := Try.f108) (c := al Try.f108) (by kernel_rfl) (by kernel_rfl) (by kernel_rfl) (S := il) (k := 0) (by kernel_rfl) (fun R hR => af) (n := 1000) (sel := JN) (fun v o h => by cases h; rfl) (pre := pre) (F := F) (T := fun x => NI (x.1.1) (x.1.2.1)) (fun x Q => air x Q) hF
def Ak (x : Eo) : Bool := aj x.1.1
def Zs (x : Eo) : OT il.Y := .br (Nat.beq (x.1.2.1.nat % pS x.1.1) 0) (.ok ⟨iD, ((⟨0, 0, 0, 0⟩, ((10 : Int), ())), ())⟩) (.ok ⟨iD, ((acR (pS x.1.1) x.1.2.1, ((0 : Int), ())), ())⟩)
theorem ad2 : ab Try.prog 108 (il.aK Ak Zs) := Uk _ _ fun x oy hp ho => by
  rw [← ho]
  clear ho
  obtain ⟨⟨s, a, ⟨⟩⟩, ⟨⟩⟩ := x
  have hs : aj s = true := hp
  have hz : cj (ofP (pS s) a) = Nat.beq (a.nat % pS s) 0 := Qk (fc hs) _
  refine (OT.ao hs).trans ((OT.ao hs).trans ?_)
  show _ = (OT.br (Nat.beq (a.nat % pS s) 0) (.ok ⟨iD, ((⟨0, 0, 0, 0⟩, ((10 : Int), ())), ())⟩) (.ok ⟨iD, ((acR (pS s) a, ((0 : Int), ())), ())⟩) : OT il.Y).run
  rw [← aaF hs, ← hz]
  rcases (Bool.eq_false_or_eq_true (cj (ofP (pS s) a))).symm with h | h
  · refine (OT.ax h).trans (Eq.trans ((ai ?_).trans rfl) (OT.ax (b := cj (ofP (pS s) a)) h).symm)
    simp only [List.all_cons, List.all_nil, Bool.and_true]
    exact hs
  · exact (OT.ao h).trans (OT.ao (b := cj (ofP (pS s) a)) h).symm
def vE : cK := (il.aK Ak Zs)
theorem NH : ab Try.prog 108 vE := ad2
theorem NG : aL vE := aD
def CO : Env := aA 108 vE CR
theorem xb : aW Try.prog CO := ag NH xf
theorem yj : av CO := ac NG ym
theorem P6 : bm Try.prog te CO := aP follows au xb yj
def mY : ap := ⟨[.val false .int, .val true .elem, .val true .elem], [], true, 0, false⟩
abbrev Uq : Type := ((Int) × (aa) × (aa) × Unit) × (Unit)
def Aq : az := ⟨[.val true .elem], [], false⟩
def RE : SV → Option az := fun _ => some Aq
def ZA (a0 : Int) (a1 : aa) (a2 : aa) : OT mY.Y :=
  let z0 : Nat := pS a0
  let z1 : aa := { w0 := 0, w1 := 0, w2 := 0, w3 := 0 }
  let z2 : aa := acR z0 a2
  (gd [Ak ((a0, a2, ()), ())] (.br (Nat.beq (aa.nat a2 % z0) 0)
  (gd [b6 ((a0, a1, z1, ()), ())] (.ok ⟨Aq, ((aN z0 a1 z1, ()), ())⟩))
  (gd [b6 ((a0, a1, z2, ()), ())] (.ok ⟨Aq, ((aN z0 a1 z2, ()), ())⟩))))
theorem akJ (x : Uq) (Q : mY.Y → Prop) : wpf te CO ay 1000 Try.f89 (mY.inp.inj x).tm (mY.inp.inj x).hp (fnK mY RE Q) (fun _ _ => False) = (ZA (x.1.1) (x.1.2.1) (x.1.2.2.1)).wpR Q := by kernel_rfl
theorem Zz (pre : Uq → Bool) (F : Uq → OT mY.Y) (hF : ∀ (x : Uq) oy, pre x = true → (F x).run = some oy → (ZA (x.1.1) (x.1.2.1) (x.1.2.2.1)).run = some oy) : ab Try.prog 89 (mY.aK pre F) :=
  aE au xb P6 (f := 89) (fn := Try.f89) (c := al Try.f89) (by kernel_rfl) (by kernel_rfl) (by kernel_rfl) (S := mY) (k := 0) (by kernel_rfl) (fun R hR => af) (n := 1000) (sel := RE) (fun v o h => by cases h; rfl) (pre := pre) (F := F) (T := fun x => ZA (x.1.1) (x.1.2.1) (x.1.2.2.1)) (fun x Q => akJ x Q) hF
def byP (p : Nat) (a b : aa) : aa := aN p a (sD p b)
def zg (x : Uq) : Bool := aj x.1.1
def afQ (x : Uq) : OT mY.Y := .ok ⟨Aq, ((byP (pS x.1.1) x.1.2.1 x.1.2.2.1, ()), ())⟩
theorem aiu : ab Try.prog 89 (mY.aK zg afQ) := Zz _ _ fun x oy hp ho => by
  rw [← ho]
  clear ho
  obtain ⟨⟨s, a, b, ⟨⟩⟩, ⟨⟩⟩ := x
  have hs : aj s = true := hp
  show _ = some (⟨Aq, ((byP (pS s) a b, ()), ())⟩ : mY.Y)
  refine (ai ?_).trans ?_
  · simp only [List.all_cons, List.all_nil, Bool.and_true, Bool.and_eq_true]
    exact hs
  · rcases (Bool.eq_false_or_eq_true (Nat.beq (b.nat % pS s) 0)).symm with h | h
    · have e : sD (pS s) b = acR (pS s) b := by unfold sD; rw [h]; rfl
      unfold byP
      rw [e]
      refine (OT.ax h).trans ((ai ?_).trans rfl)
      simp only [List.all_cons, List.all_nil, Bool.and_true]
      exact hs
    · have e : sD (pS s) b = ⟨0, 0, 0, 0⟩ := by unfold sD; rw [h]; rfl
      unfold byP
      rw [e]
      refine (OT.ao h).trans ((ai ?_).trans rfl)
      simp only [List.all_cons, List.all_nil, Bool.and_true]
      exact hs
def Ap : cK := (mY.aK zg afQ)
theorem Up : ab Try.prog 89 Ap := aiu
theorem Uo : aL Ap := aD
def FL : Env := aA 89 Ap CO
theorem uB : aW Try.prog FL := ag Up xb
theorem CS : av FL := ac Uo yj
theorem FK : bm Try.prog te FL := aP follows au uB CS
def fh : ap := ⟨[.val true .elem], [], true, 0, false⟩
abbrev vI : Type := ((aa) × Unit) × (Unit)
def nH : Shape := ⟨29, [(1, .ptr 0 0 0), (2, .ptr 1 0 0), (3, .ptr 2 0 0), (4, .val false .int)], [(0, .row .u64), (1, .row .u64), (2, .row .u64)], 0, true⟩
abbrev bY : Type := ((Unit) × (Unit) × (Unit) × (Int) × Unit) × ((List (UInt64)) × (List (UInt64)) × (List (UInt64)) × Unit)
def mh : Shape := ⟨29, [(2, .ptr 0 0 0), (3, .ptr 1 0 0)], [(0, .row .u64), (1, .row .u64)], 0, true⟩
abbrev gZ : Type := ((Unit) × (Unit) × Unit) × ((List (UInt64)) × (List (UInt64)) × Unit)
def JP : SE → Option Shape := ku [(0, mh)] none
def Zx (a4 : Int) (c0 : List (UInt64)) (c1 : List (UInt64)) (c2 : List (UInt64)) : OT (Sum bY aQ) :=
  let z0 : Bool := inB a4 4
  let z1 : Nat := List.length c0
  let z2 : List UInt64 := List.set c2 (Int.toNat a4 + 0) (bq (List.getD c0 (Int.toNat a4 + 0) (0 : UInt64)) (1 : Int))
  let z3 : Bool := decide (Int.toNat a4 + 0 < List.length z2)
  let z4 : Bool := inR (a4 + (1 : Int))
  (.br (decide (a4 < (4 : Int)))
  (gd [z0, decide (Int.toNat a4 + 0 < z1), z0, decide (Int.toNat a4 + 0 < List.length c2)] (.br (decide (a4 < (3 : Int)))
    (gd [z0, z3, z4, inB (a4 + (1 : Int)) 4, decide (Int.toNat (a4 + (1 : Int)) + 0 < z1), z0, z3, z4] (.ok (.inl (((), ((), ((), (a4 + (1 : Int), ())))), (c0, (c1, (List.set z2 (Int.toNat a4 + 0) (List.getD z2 (Int.toNat a4 + 0) (0 : UInt64) ||| cu (List.getD c0 (Int.toNat (a4 + (1 : Int)) + 0) (0 : UInt64)) (63 : Int)), ())))))))
    (gd [z4] (.ok (.inl (((), ((), ((), (a4 + (1 : Int), ())))), (c0, (c1, (z2, ())))))))))
  (.ok (.inr ⟨(.exit 0, mh), (((), ((), ())), (c1, (c2, ())))⟩)))
def fO (s : bY) : OT (Sum bY aQ) := Zx (s.1.2.2.2.1) (s.2.1) (s.2.2.1) (s.2.2.2.1)
theorem Zu (s : bY) (Q : Sum bY aQ → Prop) : wps te FL ay 1000 (bJ (al Try.f105) 0) (nH.inj s) (cW nH JP (Q : Sum nH.T aQ → Prop)) = (fO s).wpR Q := by kernel_rfl
def tj (g0_0 : bY → gZ) (s : bY) : OT aQ := (.ok ⟨(.exit 0, mh), g0_0 s⟩)
def nI : az := ⟨[.val true .elem], [], false⟩
def Es : SV → Option az := fun _ => some nI
def Gy (ok0 : bY → Bool) (g0_0 : bY → gZ) (a0 : aa) : OT fh.Y :=
  let z0 : (PUnit × PUnit × PUnit × Int × PUnit) × List UInt64 × List UInt64 × List UInt64 × PUnit := (((), (), (), (0 : Int), ()), [a0.w0, a0.w1, a0.w2, a0.w3], [(0 : UInt64), (0 : UInt64), (0 : UInt64), (0 : UInt64)], [(0 : UInt64), (0 : UInt64), (0 : UInt64), (0 : UInt64)], ())
  let z1 := (g0_0 z0).snd
  let z2 := z1.snd.fst
  let z3 := z1.fst
  let z4 : List UInt64 := lay z3 z2 4 (0 : UInt64)
  (gd [ok0 z0, decide (4 ≤ List.length z2), decide ((4 / 1 : Nat) + 0 ≤ List.length z3), decide (4 ≤ List.length z4)] (.ok ⟨nI, (({ w0 := List.getD z4 0 0, w1 := List.getD z4 1 0, w2 := List.getD z4 2 0, w3 := List.getD z4 3 0 }, ()), ())⟩))
theorem ad4 (ok0 : bY → Bool) (g0_0 : bY → gZ) (x : vI) (Q : fh.Y → Prop) : wpf te FL (bx 0 (dw nH 0 ok0 (tj g0_0)) ay) 1000 Try.f105 (fh.inp.inj x).tm (fh.inp.inj x).hp (fnK fh Es Q) (fun _ _ => False) = (Gy ok0 g0_0 (x.1.1)).wpR Q := by kernel_rfl
theorem NQ (ok0 : bY → Bool) (g0_0 : bY → gZ) (h0 : ∀ s : bY, ok0 s = true → ∃ m e, aq (fO) m s = some e ∧ (tj g0_0 s).run = some e) (pre : vI → Bool) (F : vI → OT fh.Y) (hF : ∀ (x : vI) oy, pre x = true → (F x).run = some oy → (Gy ok0 g0_0 (x.1.1)).run = some oy) : ab Try.prog 105 (fh.aK pre F) :=
  aE au uB FK (f := 105) (fn := Try.f105) (c := al Try.f105) (by kernel_rfl) (by kernel_rfl) (by kernel_rfl) (S := fh) (k := 0) (by kernel_rfl) (fun R hR => (aI (c := (al Try.f105)) (by kernel_rfl) (id := 0) (by kernel_rfl) (bA au uB FK (sh := nH) hR (xs := JP) (aH (by kernel_rfl) (by kernel_rfl) hR) aX af (n := 1000) (T := fO) (fun s Q => Zu s Q) (ok := ok0) (f := tj g0_0) h0) af)) (n := 1000) (sel := Es) (fun v o h => by cases h; rfl) (pre := pre) (F := F) (T := fun x => Gy ok0 g0_0 (x.1.1)) (fun x Q => ad4 ok0 g0_0 x Q) hF
def mE (a : aa) (c1 l : List UInt64) (i : Int) : bY := (((), (), (), i, ()), (lst a, c1, l, ()))
theorem ak9 (a : aa) (c1 : List UInt64) : (fO (mE a c1 [0, 0, 0, 0] 0)).run = some (.inl (mE a c1 [bq a.w0 1 ||| cu a.w1 63, 0, 0, 0] 1)) := rfl
theorem ak8 (a : aa) (c1 : List UInt64) (x : UInt64) : (fO (mE a c1 [x, 0, 0, 0] 1)).run = some (.inl (mE a c1 [x, bq a.w1 1 ||| cu a.w2 63, 0, 0] 2)) := rfl
theorem ak7 (a : aa) (c1 : List UInt64) (x y : UInt64) : (fO (mE a c1 [x, y, 0, 0] 2)).run = some (.inl (mE a c1 [x, y, bq a.w2 1 ||| cu a.w3 63, 0] 3)) := rfl
theorem ak6 (a : aa) (c1 : List UInt64) (x y z : UInt64) : (fO (mE a c1 [x, y, z, 0] 3)).run = some (.inl (mE a c1 [x, y, z, bq a.w3 1] 4)) := rfl
theorem ak5 (a : aa) (c1 l : List UInt64) : (fO (mE a c1 l 4)).run = some (.inr ⟨(.exit 0, mh), (((), (), ()), (c1, l, ()))⟩) := rfl
def Eu (s : bY) : Bool := decide (s.1.2.2.2.1 = 0 ∧ s.2.1.length = 4 ∧ s.2.2.2.1 = [0, 0, 0, 0])
def JS (s : bY) : gZ := (((), (), ()), (s.2.2.1, lst (eZ (elemOf s.2.1)), ()))
theorem Zw : ∀ s : bY, Eu s = true → ∃ m e, aq fO m s = some e ∧ (tj JS s).run = some e := by
  rintro ⟨⟨⟨⟩, ⟨⟩, ⟨⟩, i, ⟨⟩⟩, ⟨l, c1, c2, ⟨⟩⟩⟩ h
  have h' := of_decide_eq_true h
  dsimp only at h'
  obtain ⟨rfl, hl, rfl⟩ := h'
  obtain ⟨a, rfl⟩ : ∃ a, l = lst a := ⟨elemOf l, (aZ hl).symm⟩
  refine ⟨_, _, aO (ak9 a c1) (aO (ak8 a c1 _) (aO (ak7 a c1 _ _) (aO (ak6 a c1 _ _ _) (aT (ak5 a c1 _))))), ?_⟩
  have e : [bq a.w0 1 ||| cu a.w1 63, bq a.w1 1 ||| cu a.w2 63, bq a.w2 1 ||| cu a.w3 63, bq a.w3 1] = lst (eZ a) := by rw [So]; rfl
  rw [e]
  rfl
def Et (_ : vI) : Bool := true
def Rz (x : vI) : OT fh.Y := .ok ⟨nI, ((eZ x.1.1, ()), ())⟩
theorem Zv : ab Try.prog 105 (fh.aK Et Rz) := NQ Eu JS Zw _ _ fun x oy hp ho => by
  rw [← ho]
  clear ho
  obtain ⟨⟨a, ⟨⟩⟩, ⟨⟩⟩ := x
  refine (ai ?_).trans ?_
  · simp only [List.all_cons, List.all_nil, Bool.and_true, Bool.and_eq_true]
    exact ⟨decide_eq_true ⟨rfl, rfl, rfl⟩, rfl, rfl, rfl⟩
  · show some (⟨nI, ((elemOf (lay [0, 0, 0, 0] (lst (eZ a)) 4 0), ()), ())⟩ : fh.Y) = some ⟨nI, ((eZ a, ()), ())⟩
    rw [aj1 _ _ rfl rfl]
    rfl
def re : cK := (fh.aK Et Rz)
theorem JR : ab Try.prog 105 re := Zv
theorem JQ : aL re := aD
def qk : Env := aA 105 re FL
theorem mP : aW Try.prog qk := ag JR uB
theorem uA : av qk := ac JQ CS
theorem yl : bm Try.prog te qk := aP follows au mP uA
def cY : ap := ⟨[.val true .elem, .val false .int], [], true, 0, false⟩
abbrev kT : Type := ((aa) × (Int) × Unit) × (Unit)
def jk : Shape := ⟨14, [(1, .val false .int), (2, .ptr 0 0 0), (4, .ptr 1 0 0), (5, .val false .int)], [(0, .row .u64), (1, .row .u64)], 0, true⟩
abbrev bt : Type := ((Int) × (Unit) × (Unit) × (Int) × Unit) × ((List (UInt64)) × (List (UInt64)) × Unit)
def iE : Shape := ⟨14, [(2, .ptr 0 0 0), (4, .ptr 1 0 0)], [(0, .row .u64), (1, .row .u64)], 0, true⟩
abbrev fb : Type := ((Unit) × (Unit) × Unit) × ((List (UInt64)) × (List (UInt64)) × Unit)
def Am : SE → Option Shape := ku [(0, iE)] none
def NP (a1 : Int) (a5 : Int) (c0 : List (UInt64)) (c1 : List (UInt64)) : OT (Sum bt aQ) :=
  let z0 : Nat := List.length c0
  let z1 : aa := eZ { w0 := List.getD c0 0 0, w1 := List.getD c0 1 0, w2 := List.getD c0 2 0, w3 := List.getD c0 3 0 }
  (.br (decide (a5 < a1))
  (gd [decide (4 ≤ z0), decide ((4 / 1 : Nat) + 0 ≤ z0), inR (a5 + (1 : Int))] (.ok (.inl ((a1, ((), ((), (a5 + (1 : Int), ())))), (List.set (List.set (List.set (List.set c0 0 z1.w0) 1 z1.w1) 2 z1.w2) 3 z1.w3, (c1, ()))))))
  (.ok (.inr ⟨(.exit 0, iE), (((), ((), ())), (c0, (c1, ())))⟩)))
def jm (s : bt) : OT (Sum bt aQ) := NP (s.1.1) (s.1.2.2.2.1) (s.2.1) (s.2.2.1)
theorem NM (s : bt) (Q : Sum bt aQ → Prop) : wps te qk ay 1000 (bJ (al Try.f107) 0) (jk.inj s) (cW jk Am (Q : Sum jk.T aQ → Prop)) = (jm s).wpR Q := by kernel_rfl
def mg (g0_0 : bt → fb) (s : bt) : OT aQ := (.ok ⟨(.exit 0, iE), g0_0 s⟩)
def jl : az := ⟨[.val true .elem], [], false⟩
def xC : SV → Option az := fun _ => some jl
def vH (ok0 : bt → Bool) (g0_0 : bt → fb) (a0 : aa) (a1 : Int) : OT cY.Y :=
  let z0 : (Int × PUnit × PUnit × Int × PUnit) × List UInt64 × List UInt64 × PUnit := ((a1, (), (), (0 : Int), ()), [a0.w0, a0.w1, a0.w2, a0.w3], [(0 : UInt64), (0 : UInt64), (0 : UInt64), (0 : UInt64)], ())
  let z1 := (g0_0 z0).snd
  let z2 := z1.fst
  let z3 := z1.snd.fst
  let z4 : List UInt64 := lay z3 z2 4 (0 : UInt64)
  (gd [ok0 z0, decide (4 ≤ List.length z2), decide ((4 / 1 : Nat) + 0 ≤ List.length z3), decide (4 ≤ List.length z4)] (.ok ⟨jl, (({ w0 := List.getD z4 0 0, w1 := List.getD z4 1 0, w2 := List.getD z4 2 0, w3 := List.getD z4 3 0 }, ()), ())⟩))
theorem Um (ok0 : bt → Bool) (g0_0 : bt → fb) (x : kT) (Q : cY.Y → Prop) : wpf te qk (bx 0 (dw jk 0 ok0 (mg g0_0)) ay) 1000 Try.f107 (cY.inp.inj x).tm (cY.inp.inj x).hp (fnK cY xC Q) (fun _ _ => False) = (vH ok0 g0_0 (x.1.1) (x.1.2.1)).wpR Q := by kernel_rfl
theorem Gx (ok0 : bt → Bool) (g0_0 : bt → fb) (h0 : ∀ s : bt, ok0 s = true → ∃ m e, aq (jm) m s = some e ∧ (mg g0_0 s).run = some e) (pre : kT → Bool) (F : kT → OT cY.Y) (hF : ∀ (x : kT) oy, pre x = true → (F x).run = some oy → (vH ok0 g0_0 (x.1.1) (x.1.2.1)).run = some oy) : ab Try.prog 107 (cY.aK pre F) :=
  aE au mP yl (f := 107) (fn := Try.f107) (c := al Try.f107) (by kernel_rfl) (by kernel_rfl) (by kernel_rfl) (S := cY) (k := 0) (by kernel_rfl) (fun R hR => (aI (c := (al Try.f107)) (by kernel_rfl) (id := 0) (by kernel_rfl) (bA au mP yl (sh := jk) hR (xs := Am) (aH (by kernel_rfl) (by kernel_rfl) hR) aX af (n := 1000) (T := jm) (fun s Q => NM s Q) (ok := ok0) (f := mg g0_0) h0) af)) (n := 1000) (sel := xC) (fun v o h => by cases h; rfl) (pre := pre) (F := F) (T := fun x => vH ok0 g0_0 (x.1.1) (x.1.2.1)) (fun x Q => Um ok0 g0_0 x Q) hF
def xD (s : bt) : Bool := decide (s.1.2.2.2.1 = 0 ∧ 0 ≤ s.1.1 ∧ s.1.1 ≤ 1000000 ∧ s.2.1.length = 4)
def An (s : bt) : fb := (((), (), ()), (lst (eI (elemOf s.2.1) s.1.1.toNat), s.2.2.1, ()))
theorem NO : ∀ s : bt, xD s = true → ∃ m e, aq jm m s = some e ∧ (mg An s).run = some e := by
  rintro ⟨⟨k, ⟨⟩, ⟨⟩, i, ⟨⟩⟩, ⟨l, o, ⟨⟩⟩⟩ h
  have h' := of_decide_eq_true h
  dsimp only at h'
  obtain ⟨rfl, h0, h1, hl⟩ := h'
  obtain ⟨a, rfl⟩ : ∃ a, l = lst a := ⟨elemOf l, (aZ hl).symm⟩
  have := (bI (T := jm) (fun i a => (((k, (), (), (i : Int), ()), (lst a, o, ())) : bt)) (fun _ e => eZ e)
    (fun a => (⟨(.exit 0, iE), (((), (), ()), (lst a, o, ()))⟩ : aQ)) k.toNat a (fun _ _ => True) trivial (fun i a hi _ => ⟨?_, trivial⟩) (fun a _ => ?_)).1
  · rw [rH] at this
    obtain ⟨m, hm⟩ := this
    exact ⟨m, _, hm, rfl⟩
  · refine (OT.ao (decide_eq_true (by dsimp only; omega))).trans ((ai ?_).trans rfl)
    simp only [List.all_cons, List.all_nil, Bool.and_true, Bool.and_eq_true]
    exact ⟨rfl, rfl, bC (by omega)⟩
  · exact OT.ax (decide_eq_false (by dsimp only; omega))
def nG (x : kT) : Bool := decide (0 ≤ x.1.2.1 ∧ x.1.2.1 ≤ 1000000)
def Er (x : kT) : OT cY.Y := .ok ⟨jl, ((eI x.1.1 x.1.2.1.toNat, ()), ())⟩
theorem NN : ab Try.prog 107 (cY.aK nG Er) := Gx xD An NO _ _ fun x oy hp ho => by
  rw [← ho]
  clear ho
  obtain ⟨⟨a, k, ⟨⟩⟩, ⟨⟩⟩ := x
  have hp' : 0 ≤ k ∧ k ≤ 1000000 := of_decide_eq_true hp
  refine (ai ?_).trans ?_
  · simp only [List.all_cons, List.all_nil, Bool.and_true, Bool.and_eq_true]
    exact ⟨decide_eq_true ⟨rfl, hp'.1, hp'.2, rfl⟩, rfl, rfl, rfl⟩
  · show some (⟨jl, ((elemOf (lay [0, 0, 0, 0] (lst (eI a k.toNat)) 4 0), ()), ())⟩ : cY.Y) = some ⟨jl, ((eI a k.toNat, ()), ())⟩
    rw [aj1 _ _ rfl rfl]
    rfl
def mf : cK := (cY.aK nG Er)
theorem DK : ab Try.prog 107 mf := NN
theorem DJ : aL mf := aD
def xe : Env := aA 107 mf qk
theorem It : aW Try.prog xe := ag DK mP
theorem CQ : av xe := ac DJ uA
end Go.Proofs.Ytkedomfjjahjnaa

namespace Go.Proofs.Ytkedomfjjahjnaa
namespace Sx
open Go Go.RowKit Go.ChangeShapes Go.WideShapes Go.ChangeAt
section
variable {H : Type} {enc : TypeId × Value → H} {P : Program} {te : TE} (hte : jZ P te) {w : World} {sp : Nat → Bool}
include hte
theorem MX {T e : TypeId} {ti ei : TI} (hT : te T = some ti) (hd : ti.desc = .slice e) (hei : te e = some ei) {ad : Option Addr} {n cap : Nat} {d : DataW H} {ps : List MemPlace}
    (h : DataW.Trod enc P w 0 sp true T (.slice ad n cap) d ps) (hw : ∀ n ∈ d.weights P T, n ≤ reachBytes) : n * ei.bytes ≤ reachBytes := by
  obtain ⟨fuel, hr⟩ := h
  obtain ⟨ds, hu, hds⟩ := (hte T ti hT).desc
  rw [hd] at hds
  simp only at hds
  subst hds
  cases fuel with
  | zero => simp [DataW.trod] at hr
  | succ fuel =>
    have hone : (Value.slice ad n cap).cells.toList = [.slice ad n cap] := rfl
    rw [hone] at hr
    simp only [DataW.trod, hu] at hr
    cases ad with
    | none =>
      rcases n with _ | n
      · rw [Nat.zero_mul]; exact Nat.zero_le _
      · cases cap <;> cases hr
    | some a =>
      simp only at hr
      split at hr
      · simp only [Option.bind_eq_some_iff, Option.map_eq_some_iff] at hr
        obtain ⟨elems, hm, rest, _, hx⟩ := hr
        cases hx
        obtain ⟨m1, _⟩ := we hm
        rw [List.length_range] at m1
        have hwt := hw ((elems.length + rest.length) * P.bytesOf e) (by simp [DataW.weights, hu])
        rw [Fv hte hei] at hwt
        refine Nat.le_trans (Nat.mul_le_mul_right _ ?_) hwt
        omega
      · cases hr
end
end Sx
end Go.Proofs.Ytkedomfjjahjnaa

namespace Go.Proofs.Ytkedomfjjahjnaa
namespace Sx
open Go
theorem OT.Ia {α β : Type} {f : α → OT β} : ∀ {t : OT α} {a : α} {b : β}, t.run = some a → (f a).run = some b → (t.bind f).run = some b
  | .ok x, a, b, h, h2 => by
    cases h
    exact h2
  | .br c x y, a, b, h, h2 => by
    cases c
    · exact OT.Ia (t := y) h h2
    · exact OT.Ia (t := x) h h2
  | .fail, a, b, h, _ => by cases h
theorem qR {P : Program} {n : FuncId} {S : ap} {pre pre' : S.T → Bool} {F F' : S.T → OT S.Y} (h : ab P n (S.aK pre F))
    (hw : ∀ x oy, pre' x = true → (F' x).run = some oy → pre x = true ∧ (F x).run = some oy) : ab P n (S.aK pre' F') := by
  refine ⟨fun R w d args vs out hm hr hrun => h.calls R w d args vs out hm hr ?_⟩
  simp only [ap.aK] at hrun ⊢
  split at hrun
  · cases hrun
  · rename_i x hx
    obtain ⟨hp, hrun⟩ := OT.aC hrun
    obtain ⟨oy, h1, h2⟩ := OT.run_bind hrun
    obtain ⟨h3, h4⟩ := hw x oy hp h1
    rw [h3]
    exact OT.Ia h4 h2
end Sx
end Go.Proofs.Ytkedomfjjahjnaa

namespace Go.Proofs.Ytkedomfjjahjnaa
open Sx Go
set_option maxRecDepth 100000
abbrev Rw : ap := fM
def vA (x : xB) : Bool := aj x.1.1
def Rx (x : xB) : OT fM.Y := .ok ⟨iC, (((bM x.1.1.toNat).1, ((0 : Int), ())), ())⟩
theorem Zo : ab Try.prog 85 (Rw.aK vA Rx) := qR (S := fM) Ry fun x oy hp ho => ⟨rfl, (OT.ao (b := aj x.1.1) hp).trans ho⟩
def rc : cK := (Rw.aK vA Rx)
theorem JH : ab Try.prog 85 rc := Zo
theorem JG : aL rc := aD
def Is : Env := aA 85 rc xe
theorem P4 : aW Try.prog Is := ag JH It
theorem Ir : av Is := ac JG CQ
abbrev RF : ap := fR
def vM (x : xE) : Bool := aj x.1.1
def RG (x : xE) : OT fR.Y := .ok ⟨mi, (((bM x.1.1.toNat).2.1, ((0 : Int), ())), ())⟩
theorem ZC : ab Try.prog 106 (RF.aK vM RG) := qR (S := fR) RH fun x oy hp ho => ⟨rfl, (OT.ao (b := aj x.1.1) hp).trans ho⟩
def rf : cK := (RF.aK vM RG)
theorem JY : ab Try.prog 106 rf := ZC
theorem JX : aL rf := aD
def Iv : Env := aA 106 rf Is
theorem P8 : aW Try.prog Iv := ag JY P4
theorem Iu : av Iv := ac JX Ir
abbrev Zg : ap := ji
def gY (x : JC) : Bool := aj x.1.1
def Zh (x : JC) : OT ji.Y := .ok ⟨kB, ((ofP (pS x.1.1) x.1.2.1, ()), ())⟩
theorem adW : ab Try.prog 54 (Zg.aK gY Zh) := qR (S := ji) Zk fun x oy hp ho => ⟨rfl, (OT.ao (b := aj x.1.1) hp).trans ho⟩
def vx : cK := (Zg.aK gY Zh)
theorem Nr : ab Try.prog 54 vx := adW
theorem Nq : aL vx := aD
def CI : Env := aA 54 vx Iv
theorem wX : aW Try.prog CI := ag Nr P8
theorem ye : av CI := ac Nq Iu
theorem PZ : bm Try.prog te CI := aP follows au wX ye
def jf : ap := ⟨[], [], true, 0, false⟩
abbrev Eb : Type := (Unit) × (Unit)
def Gh : az := ⟨[.val true (.prod .elem (.prod .elem .bool))], [], false⟩
def Jn : SV → Option az := fun _ => some Gh
def Nc : OT jf.Y :=
  let z0 : aa := { w0 := 0, w1 := 0, w2 := 0, w3 := 0 }
  (.ok ⟨Gh, (((z0, z0, true), ()), ())⟩)
theorem aic (x : Eb) (Q : jf.Y → Prop) : wpf te CI ay 1000 Try.f53 (jf.inp.inj x).tm (jf.inp.inj x).hp (fnK jf Jn Q) (fun _ _ => False) = (Nc).wpR Q := by kernel_rfl
theorem T6 (pre : Eb → Bool) (F : Eb → OT jf.Y) (hF : ∀ (x : Eb) oy, pre x = true → (F x).run = some oy → (Nc).run = some oy) : ab Try.prog 53 (jf.aK pre F) :=
  aE au wX PZ (f := 53) (fn := Try.f53) (c := al Try.f53) (by kernel_rfl) (by kernel_rfl) (by kernel_rfl) (S := jf) (k := 0) (by kernel_rfl) (fun R hR => af) (n := 1000) (sel := Jn) (fun v o h => by cases h; rfl) (pre := pre) (F := F) (T := fun x => Nc) (fun x Q => aic x Q) hF
def Jo (_ : Eb) : Bool := true
def YW (_ : Eb) : OT jf.Y := .ok ⟨Gh, ((aB, ()), ())⟩
theorem adP : ab Try.prog 53 (jf.aK Jo YW) := T6 _ _ fun x oy _ ho => ho
def vo : cK := (jf.aK Jo YW)
theorem Nb : ab Try.prog 53 vo := adP
theorem Na : aL vo := aD
def CG : Env := aA 53 vo CI
theorem wV : aW Try.prog CG := ag Nb wX
theorem ya : av CG := ac Na ye
theorem PY : bm Try.prog te CG := aP follows au wV ya
def zW : ap := ⟨[.val false .int], [], true, 0, false⟩
abbrev aj0 : Type := ((Int) × Unit) × (Unit)
def Y0 : az := ⟨[.val true .elem], [], false⟩
def YZ : SV → Option az := fun _ => some Y0
def aid (a0 : Int) : OT zW.Y :=
  (gd [inB a0 4, decide (Int.toNat a0 + 0 < 4)] (.ok ⟨Y0, (({ w0 := List.getD [(23 : UInt64), (21 : UInt64), (5 : UInt64), (5 : UInt64)] (Int.toNat a0 + 0) (0 : UInt64), w1 := 0, w2 := 0, w3 := 0 }, ()), ())⟩))
theorem ama (x : aj0) (Q : zW.Y → Prop) : wpf te CG ay 1000 Try.f93 (zW.inp.inj x).tm (zW.inp.inj x).hp (fnK zW YZ Q) (fun _ _ => False) = (aid (x.1.1)).wpR Q := by kernel_rfl
theorem adR (pre : aj0 → Bool) (F : aj0 → OT zW.Y) (hF : ∀ (x : aj0) oy, pre x = true → (F x).run = some oy → (aid (x.1.1)).run = some oy) : ab Try.prog 93 (zW.aK pre F) :=
  aE au wV PY (f := 93) (fn := Try.f93) (c := al Try.f93) (by kernel_rfl) (by kernel_rfl) (by kernel_rfl) (S := zW) (k := 0) (by kernel_rfl) (fun R hR => af) (n := 1000) (sel := YZ) (fun v o h => by cases h; rfl) (pre := pre) (F := F) (T := fun x => aid (x.1.1)) (fun x Q => ama x Q) hF
def Nf (x : aj0) : Bool := aj x.1.1
def akH (x : aj0) : OT zW.Y := .ok ⟨Y0, ((bS x.1.1, ()), ())⟩
theorem akG : ab Try.prog 93 (zW.aK Nf akH) := adR _ _ fun x oy hp ho => by
  rw [← ho]
  clear ho
  obtain ⟨⟨s, ⟨⟩⟩, ⟨⟩⟩ := x
  rcases cl hp with h | h | h | h
  all_goals
    have h : s = _ := h
    subst h
    rfl
def Gj : cK := (zW.aK Nf akH)
theorem Y3 : ab Try.prog 93 Gj := akG
theorem YY : aL Gj := aD
def acL : Env := aA 93 Gj CG
theorem Iq : aW Try.prog acL := ag Y3 wV
theorem FJ : av acL := ac YY ya
theorem acK : bm Try.prog te acL := aP follows au Iq FJ
def ff : ap := ⟨[.val false .int, .val true .elem], [], true, 0, false⟩
abbrev vp : Type := ((Int) × (aa) × Unit) × (Unit)
def s8 : az := ⟨[.val true .elem], [], false⟩
def Ec : SV → Option az := fun _ => some s8
def Gi (a0 : Int) (a1 : aa) : OT ff.Y :=
  let z0 : Nat := pS a0
  let z1 : aa := aN z0 a1 a1
  let z2 : aa := aN z0 a1 z1
  let z3 : aa := bS a0
  (gd [b6 ((a0, a1, a1, ()), ()), b6 ((a0, a1, z1, ()), ()), Nf ((a0, ()), ()), nK ((a0, z2, z3, ()), ())] (.ok ⟨s8, ((nk z0 z2 z3, ()), ())⟩))
theorem adQ (x : vp) (Q : ff.Y → Prop) : wpf te acL ay 1000 Try.f63 (ff.inp.inj x).tm (ff.inp.inj x).hp (fnK ff Ec Q) (fun _ _ => False) = (Gi (x.1.1) (x.1.2.1)).wpR Q := by kernel_rfl
theorem Nd (pre : vp → Bool) (F : vp → OT ff.Y) (hF : ∀ (x : vp) oy, pre x = true → (F x).run = some oy → (Gi (x.1.1) (x.1.2.1)).run = some oy) : ab Try.prog 63 (ff.aK pre F) :=
  aE au Iq acK (f := 63) (fn := Try.f63) (c := al Try.f63) (by kernel_rfl) (by kernel_rfl) (by kernel_rfl) (S := ff) (k := 0) (by kernel_rfl) (fun R hR => af) (n := 1000) (sel := Ec) (fun v o h => by cases h; rfl) (pre := pre) (F := F) (T := fun x => Gi (x.1.1) (x.1.2.1)) (fun x Q => adQ x Q) hF
theorem Z3 (p : Nat) (a b : aa) : aN p a b = aN p b a := by unfold aN; rw [Nat.mul_comm]
def pf (x : vp) : Bool := aj x.1.1
def Rp (x : vp) : OT ff.Y := .ok ⟨s8, ((yR (pS x.1.1) x.1.2.1 (bS x.1.1), ()), ())⟩
theorem YX : ab Try.prog 63 (ff.aK pf Rp) := Nd _ _ fun x oy hp ho => by
  rw [← ho]
  clear ho
  obtain ⟨⟨s, a, ⟨⟩⟩, ⟨⟩⟩ := x
  have hs : aj s = true := hp
  show _ = some (⟨s8, ((yR (pS s) a (bS s), ()), ())⟩ : ff.Y)
  unfold yR
  rw [Z3 _ (aN (pS s) a a) a]
  refine (ai ?_).trans rfl
  simp only [List.all_cons, List.all_nil, Bool.and_true, Bool.and_eq_true]
  exact ⟨hs, hs, hs, hs⟩
def q9 : cK := (ff.aK pf Rp)
theorem Jq : ab Try.prog 63 q9 := YX
theorem Jp : aL q9 := aD
def uv : Env := aA 63 q9 acL
theorem sa : aW Try.prog uv := ag Jq Iq
theorem uu : av uv := ac Jp FJ
theorem Mj : bm Try.prog te uv := aP follows au sa uu
def kM : ap := ⟨[.val false .int, .val true (.prod .elem (.prod .elem .bool))], [], true, 0, false⟩
abbrev T4 : Type := ((Int) × ((aa × (aa × Bool))) × Unit) × (Unit)
def l9 : az := ⟨[.val false .bool], [], false⟩
def Rj : SV → Option az := fun _ => some l9
def YU (a0 : Int) (a1 : (aa × (aa × Bool))) : OT kM.Y :=
  let z0 : Int × aa × PUnit := (a0, a1.fst, ())
  let z1 : Nat := pS a0
  let z2 : aa := ofP z1 a1.fst
  let z3 : aa := ofP z1 a1.snd.fst
  let z4 : aa := aN z1 a1.snd.fst a1.snd.fst
  let z5 : aa := yR z1 a1.fst (bS a0)
  (.br (decide (a0 < (0 : Int)))
  (.ok ⟨l9, ((false, ()), ())⟩)
  (.br (decide ((3 : Int) < a0))
    (.ok ⟨l9, ((false, ()), ())⟩)
    (.br (a1.snd.snd)
      (.ok ⟨l9, ((a1.fst.w0 == (0 : UInt64) && (a1.fst.w1 == (0 : UInt64) && (a1.fst.w2 == (0 : UInt64) && (a1.fst.w3 == (0 : UInt64) && true))) && (a1.snd.fst.w0 == (0 : UInt64) && (a1.snd.fst.w1 == (0 : UInt64) && (a1.snd.fst.w2 == (0 : UInt64) && (a1.snd.fst.w3 == (0 : UInt64) && true))) && (a1.snd.snd == true && true)), ()), ())⟩)
      (gd [gY (z0, ())] (.br (!(z2.w0 == a1.fst.w0 && (z2.w1 == a1.fst.w1 && (z2.w2 == a1.fst.w2 && (z2.w3 == a1.fst.w3 && true)))))
        (.ok ⟨l9, ((false, ()), ())⟩)
        (gd [gY ((a0, a1.snd.fst, ()), ())] (.br (!(z3.w0 == a1.snd.fst.w0 && (z3.w1 == a1.snd.fst.w1 && (z3.w2 == a1.snd.fst.w2 && (z3.w3 == a1.snd.fst.w3 && true)))))
          (.ok ⟨l9, ((false, ()), ())⟩)
          (gd [b6 ((a0, a1.snd.fst, a1.snd.fst, ()), ()), pf (z0, ())] (.ok ⟨l9, ((z4.w0 == z5.w0 && (z4.w1 == z5.w1 && (z4.w2 == z5.w2 && (z4.w3 == z5.w3 && true))), ()), ())⟩)))))))))
theorem akF (x : T4) (Q : kM.Y → Prop) : wpf te uv ay 1000 Try.f22 (kM.inp.inj x).tm (kM.inp.inj x).hp (fnK kM Rj Q) (fun _ _ => False) = (YU (x.1.1) (x.1.2.1)).wpR Q := by kernel_rfl
theorem YT (pre : T4 → Bool) (F : T4 → OT kM.Y) (hF : ∀ (x : T4) oy, pre x = true → (F x).run = some oy → (YU (x.1.1) (x.1.2.1)).run = some oy) : ab Try.prog 22 (kM.aK pre F) :=
  aE au sa Mj (f := 22) (fn := Try.f22) (c := al Try.f22) (by kernel_rfl) (by kernel_rfl) (by kernel_rfl) (S := kM) (k := 0) (by kernel_rfl) (fun R hR => af) (n := 1000) (sel := Rj) (fun v o h => by cases h; rfl) (pre := pre) (F := F) (T := fun x => YU (x.1.1) (x.1.2.1)) (fun x Q => akF x Q) hF
theorem RP {s : Int} (hs : aj s = true) (x : aa) : eqE (ofP (pS s) x) x = Nat.blt x.nat (pS s) := by
  have hp := fc hs
  have hlt := Nat.mod_lt x.nat hp.1
  rw [ajA, show (ofP (pS s) x).nat = x.nat % pS s from cv hp]
  rcases (Bool.eq_false_or_eq_true (Nat.blt x.nat (pS s))).symm with h | h
  · rw [h]
    have hle := ZW h
    cases hb : Nat.beq (x.nat % pS s) x.nat
    · rfl
    · have := Nat.eq_of_beq_eq_true hb
      omega
  · rw [h, Nat.mod_eq_of_lt (cC h)]
    exact Nat.beq_refl _
def Rk (_ : T4) : Bool := true
def afO (x : T4) : OT kM.Y := .ok ⟨l9, ((onB x.1.1 x.1.2.1, ()), ())⟩
theorem aia : ab Try.prog 22 (kM.aK Rk afO) := YT _ _ fun x oy _ ho => by
  rw [← ho]
  clear ho
  obtain ⟨⟨c, ⟨X, Y, i⟩, ⟨⟩⟩, ⟨⟩⟩ := x
  show _ = some (⟨l9, ((onB c (X, Y, i), ()), ())⟩ : kM.Y)
  rcases (Bool.eq_false_or_eq_true (aj c)).symm with hs | hs
  · have e : onB c (X, Y, i) = false := by unfold onB; rw [hs]; rfl
    rw [e]
    by_cases h0 : c < 0
    · exact OT.ao (decide_eq_true h0)
    · refine (OT.ax (decide_eq_false h0)).trans (OT.ao (decide_eq_true ?_))
      show (3 : Int) < c
      simp only [aj, Bool.and_eq_false_iff, decide_eq_false_iff_not] at hs
      omega
  · have hc : 0 ≤ c ∧ c < 4 := by simpa [aj] using hs
    refine (OT.ax (decide_eq_false (by show ¬ c < 0; omega))).trans ((OT.ax (decide_eq_false (by show ¬ (3 : Int) < c; omega))).trans ?_)
    have hx := RP hs X
    have hy := RP hs Y
    have gd1 : ∀ (a : aa) (z : OT kM.Y), (gd [gY ((c, a, ()), ())] z).run = z.run := fun a z => ai (by simp only [List.all_cons, List.all_nil, Bool.and_true]; exact hs)
    cases i
    · refine (OT.ax rfl).trans ((gd1 X _).trans ?_)
      rcases (Bool.eq_false_or_eq_true (Nat.blt X.nat (pS c))).symm with h1 | h1
      · have e : onB c (X, Y, false) = false := by unfold onB; rw [hs, h1]; rfl
        rw [e]
        rw [h1] at hx
        exact OT.ao (b := !eqE (ofP (pS c) X) X) (by rw [hx]; rfl)
      · have hx1 := hx
        rw [h1] at hx1
        refine (OT.ax (b := !eqE (ofP (pS c) X) X) (by rw [hx1]; rfl)).trans ((gd1 Y _).trans ?_)
        rcases (Bool.eq_false_or_eq_true (Nat.blt Y.nat (pS c))).symm with h2 | h2
        · have e : onB c (X, Y, false) = false := by unfold onB; rw [hs, h1, h2]; rfl
          rw [e]
          rw [h2] at hy
          exact OT.ao (b := !eqE (ofP (pS c) Y) Y) (by rw [hy]; rfl)
        · have hy1 := hy
          rw [h2] at hy1
          have e : onB c (X, Y, false) = eqE (aN (pS c) Y Y) (yR (pS c) X (bS c)) := by unfold onB; rw [hs, h1, h2]; rfl
          rw [e]
          refine (OT.ax (b := !eqE (ofP (pS c) Y) Y) (by rw [hy1]; rfl)).trans ((ai ?_).trans rfl)
          simp only [List.all_cons, List.all_nil, Bool.and_true, Bool.and_eq_true]
          exact ⟨hs, hs⟩
    · have e : onB c (X, Y, true) = (cj X && (cj Y && true)) := by unfold onB; rw [hs]; rfl
      rw [e]
      exact OT.ao rfl
def zU : cK := (kM.aK Rk afO)
theorem T3 : ab Try.prog 22 zU := aia
theorem T1 : aL zU := aD
def Mi : Env := aA 22 zU uv
theorem CE : aW Try.prog Mi := ag T3 sa
theorem CF : av Mi := ac T1 uu
theorem Wv : bm Try.prog te Mi := aP follows au CE CF
end Go.Proofs.Ytkedomfjjahjnaa
