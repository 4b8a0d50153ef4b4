/- A symbolic machine for Go code over plain data, and functions of the program as it shows them. No statement is proved in this file. -/
import Derived.KernelRfl
import Derived.Test.YtkedomfjjahjnaaXc
set_option linter.unusedSimpArgs false
set_option linter.unusedVariables false
set_option linter.unusedSectionVars false

namespace Go.Proofs.Ytkedomfjjahjnaa
open Sx Go
set_option maxRecDepth 100000
def iT : aq := ⟨[.val true (.prod .elem (.prod .int (.prod .u64 (.prod .u64 .elem)))), .val true .elem, .val true .elem], [], true, 0, false⟩
abbrev G6 : Type := (((aa × (Int × (UInt64 × (UInt64 × aa))))) × (aa) × (aa) × Unit) × (Unit)
def u6 : Shape := ⟨61, [(3, .ptr 0 0 0), (4, .ptr 1 0 0), (6, .ptr 2 0 0), (7, .ptr 3 0 0), (13, .val true .elem), (14, .val false .int)], [(0, .cells [.val false .u64, .val false .u64, .val false .u64, .val false .u64, .val false .int, .val false .u64, .val false .u64, .val false .u64, .val false .u64, .val false .u64, .val false .u64]), (1, .row .u64), (2, .row .u64), (3, .row .u64)], 0, true⟩
abbrev cj : Type := ((Unit) × (Unit) × (Unit) × (Unit) × (aa) × (Int) × Unit) × (((UInt64) × (UInt64) × (UInt64) × (UInt64) × (Int) × (UInt64) × (UInt64) × (UInt64) × (UInt64) × (UInt64) × (UInt64) × Unit) × (List (UInt64)) × (List (UInt64)) × (List (UInt64)) × Unit)
def qS : Shape := ⟨61, [(3, .ptr 0 0 0), (6, .ptr 1 0 0), (7, .ptr 2 0 0)], [(0, .cells [.val false .u64, .val false .u64, .val false .u64, .val false .u64, .val false .int, .val false .u64, .val false .u64, .val false .u64, .val false .u64, .val false .u64, .val false .u64]), (1, .row .u64), (2, .row .u64)], 0, true⟩
abbrev ke : Type := ((Unit) × (Unit) × (Unit) × Unit) × (((UInt64) × (UInt64) × (UInt64) × (UInt64) × (Int) × (UInt64) × (UInt64) × (UInt64) × (UInt64) × (UInt64) × (UInt64) × Unit) × (List (UInt64)) × (List (UInt64)) × Unit)
def Vk : SE → Option Shape := ku [(0, qS)] none
def JA (a13 : aa) (a14 : Int) (c0_0 : UInt64) (c0_1 : UInt64) (c0_2 : UInt64) (c0_3 : UInt64) (c0_4 : Int) (c0_5 : UInt64) (c0_6 : UInt64) (c0_7 : UInt64) (c0_8 : UInt64) (c0_9 : UInt64) (c0_10 : UInt64) (c1 : List (UInt64)) (c2 : List (UInt64)) (c3 : List (UInt64)) : OT (Sum cj aO) :=
  let z0 : Nat := List.length c3
  let z1 : List UInt64 := lay c3 (l6 (v6 (tab c3 6 (0 : UInt64)) + aa.nat { w0 := List.getD c1 0 0, w1 := List.getD c1 1 0, w2 := List.getD c1 2 0, w3 := List.getD c1 3 0 } * UInt64.toNat (List.getD [a13.w0, a13.w1, a13.w2, a13.w3] (Int.toNat a14) (0 : UInt64)))) 6 (0 : UInt64)
  let z2 : Nat := List.length z1
  let z3 : List UInt64 := lay z1 (l6 (v6 (tab z1 6 (0 : UInt64)) + aa.nat { w0 := c0_0, w1 := c0_1, w2 := c0_2, w3 := c0_3 } * UInt64.toNat (List.getD z1 0 0 * c0_6))) 6 (0 : UInt64)
  let z4 : Nat := List.length z3
  (.br (decide (a14 < (4 : Int)))
  (gd [inB a14 4, decide (6 ≤ z0), decide (4 ≤ List.length c1), decide ((6 / 1 : Nat) + 0 ≤ z0), decide (6 ≤ z2), decide (0 < z2), decide ((6 / 1 : Nat) + 0 ≤ z2), decide (1 < z4), decide (2 < z4), decide (3 < z4), decide (4 < z4), decide (5 < z4), decide ((6 / 1 : Nat) + 0 ≤ z4), inR (a14 + (1 : Int))] (.ok (.inl (((), ((), ((), ((), (a13, (a14 + (1 : Int), ())))))), ((c0_0, (c0_1, (c0_2, (c0_3, (c0_4, (c0_5, (c0_6, (c0_7, (c0_8, (c0_9, (c0_10, ()))))))))))), (c1, (c2, (List.set (List.set (List.set (List.set (List.set (List.set z3 0 (List.getD z3 1 0)) 1 (List.getD z3 2 0)) 2 (List.getD z3 3 0)) 3 (List.getD z3 4 0)) 4 (List.getD z3 5 0)) 5 (0 : UInt64), ()))))))))
  (.ok (.inr ⟨(.exit 0, qS), (((), ((), ((), ()))), ((c0_0, (c0_1, (c0_2, (c0_3, (c0_4, (c0_5, (c0_6, (c0_7, (c0_8, (c0_9, (c0_10, ()))))))))))), (c2, (c3, ()))))⟩)))
def u7 (s : cj) : OT (Sum cj aO) := JA (s.1.2.2.2.2.1) (s.1.2.2.2.2.2.1) (s.2.1.1) (s.2.1.2.1) (s.2.1.2.2.1) (s.2.1.2.2.2.1) (s.2.1.2.2.2.2.1) (s.2.1.2.2.2.2.2.1) (s.2.1.2.2.2.2.2.2.1) (s.2.1.2.2.2.2.2.2.2.1) (s.2.1.2.2.2.2.2.2.2.2.1) (s.2.1.2.2.2.2.2.2.2.2.2.1) (s.2.1.2.2.2.2.2.2.2.2.2.2.1) (s.2.2.1) (s.2.2.2.1) (s.2.2.2.2.1)
theorem ahQ (s : cj) (Q : Sum cj aO → Prop) : wps te HQ ax 1000 (bG (ak Try.f110) 0) (u6.inj s) (cU u6 Vk (Q : Sum u6.T aO → Prop)) = (u7 s).wpR Q := by kernel_rfl
def A6 (g0_0 : cj → ke) (s : cj) : OT aO := (.ok ⟨(.exit 0, qS), g0_0 s⟩)
def qR : ay := ⟨[.val true .elem], [], false⟩
def Ng : SV → Option ay := fun _ => some qR
def Rs (ok0 : cj → Bool) (g0_0 : cj → ke) (a0 : (aa × (Int × (UInt64 × (UInt64 × aa))))) (a1 : aa) (a2 : aa) : OT iT.Y :=
  let z0 : (PUnit × PUnit × PUnit × PUnit × aa × Int × PUnit) × (UInt64 × UInt64 × UInt64 × UInt64 × Int × UInt64 × UInt64 × UInt64 × UInt64 × UInt64 × UInt64 × PUnit) × List UInt64 × List UInt64 × List UInt64 × PUnit := (((), (), (), (), a2, (0 : Int), ()), (a0.fst.w0, a0.fst.w1, a0.fst.w2, a0.fst.w3, a0.snd.fst, a0.snd.snd.fst, a0.snd.snd.snd.fst, a0.snd.snd.snd.snd.w0, a0.snd.snd.snd.snd.w1, a0.snd.snd.snd.snd.w2, a0.snd.snd.snd.snd.w3, ()), [a1.w0, a1.w1, a1.w2, a1.w3], [(0 : UInt64), (0 : UInt64), (0 : UInt64), (0 : UInt64)], [(0 : UInt64), (0 : UInt64), (0 : UInt64), (0 : UInt64), (0 : UInt64), (0 : UInt64)], ())
  let z1 := (g0_0 z0).snd
  let z2 := z1.snd
  let z3 := z2.snd.fst
  let z4 : Nat := List.length z3
  let z5 := z2.fst
  let z6 : Nat := List.length z5
  let z7 : Bool := decide ((4 / 1 : Nat) + 0 ≤ z6)
  let z8 := z1.fst
  let z9 := z8.snd
  let z10 := z9.snd
  let z11 : aa × Bool := lb { w0 := List.getD z3 0 0, w1 := List.getD z3 1 0, w2 := List.getD z3 2 0, w3 := List.getD z3 3 0 } { w0 := z8.fst, w1 := z9.fst, w2 := z10.fst, w3 := z10.snd.fst }
  let z12 := z11.fst
  let z13 : List UInt64 := List.set (List.set (List.set (List.set z5 0 z12.w0) 1 z12.w1) 2 z12.w2) 3 z12.w3
  let z14 : Bool := decide (4 ≤ List.length z13)
  let z15 : aa := { w0 := List.getD z13 0 0, w1 := List.getD z13 1 0, w2 := List.getD z13 2 0, w3 := List.getD z13 3 0 }
  let z16 : List UInt64 := lay z5 z3 4 (0 : UInt64)
  (gd [ok0 z0, decide (6 ≤ z4) && true, decide (4 ≤ z4), decide (4 < z4)] (.br (!List.getD z3 4 0 == (0 : UInt64))
  (gd [z7, z14] (.ok ⟨qR, ((z15, ()), ())⟩))
  (.br (!z11.snd)
    (gd [z7, z14] (.ok ⟨qR, ((z15, ()), ())⟩))
    (gd [decide ((4 / 1 : Nat) + 0 ≤ z6), decide (4 ≤ List.length z16)] (.ok ⟨qR, (({ w0 := List.getD z16 0 0, w1 := List.getD z16 1 0, w2 := List.getD z16 2 0, w3 := List.getD z16 3 0 }, ()), ())⟩)))))
theorem al4 (ok0 : cj → Bool) (g0_0 : cj → ke) (x : G6) (Q : iT.Y → Prop) : wpf te HQ (bp 0 (dv u6 0 ok0 (A6 g0_0)) ax) 1000 Try.f110 (iT.inp.inj x).tm (iT.inp.inj x).hp (fnK iT Ng Q) (fun _ _ => False) = (Rs ok0 g0_0 (x.1.1) (x.1.2.1) (x.1.2.2.1)).wpR Q := by kernel_rfl
theorem XY (ok0 : cj → Bool) (g0_0 : cj → ke) (h0 : ∀ s : cj, ok0 s = true → ∃ m e, au (u7) m s = some e ∧ (A6 g0_0 s).run = some e) (pre : G6 → Bool) (F : G6 → OT iT.Y) (hF : ∀ (x : G6) oy, pre x = true → (F x).run = some oy → (Rs ok0 g0_0 (x.1.1) (x.1.2.1) (x.1.2.2.1)).run = some oy) : ab Try.prog 110 (iT.aK pre F) :=
  aD av wa HP (f := 110) (fn := Try.f110) (c := ak Try.f110) (by kernel_rfl) (by kernel_rfl) (by kernel_rfl) (S := iT) (k := 0) (by kernel_rfl) (fun R hR => (aI (c := (ak Try.f110)) (by kernel_rfl) (id := 0) (by kernel_rfl) (bw av wa HP (sh := u6) hR (xs := Vk) (aH (by kernel_rfl) (by kernel_rfl) hR) aW ae (n := 1000) (T := u7) (fun s Q => ahQ s Q) (ok := ok0) (f := A6 g0_0) h0) ae)) (n := 1000) (sel := Ng) (fun v o h => by cases h; rfl) (pre := pre) (F := F) (T := fun x => Rs ok0 g0_0 (x.1.1) (x.1.2.1) (x.1.2.2.1)) (fun x Q => al4 ok0 g0_0 x Q) hF
def iS (n : KQ) : Bool := decide (n = bQ 2) || decide (n = bQ 3)
theorem gE {n : KQ} (h : iS n = true) : n = bQ 2 ∨ n = bQ 3 := by
  simpa [iS] using h
def agu (n : KQ) : Nat := if n.2.2.2.1 == 11037532056220336127 then 15353493766103302224812374511606760489073247795810767472367693728416386214313 else 14238205147845459960272226733876560297615832660064601289232577236146637664127
theorem adO {n : KQ} (h : iS n = true) : (n.1.nat * n.2.2.2.1.toNat + 1) % 18446744073709551616 = 0 := by
  rcases gE h with rfl | rfl <;> decide +kernel
theorem adP {n : KQ} (h : iS n = true) : 115792089237316195423570985008687907853269984665640564039457584007913129639936 * agu n % n.1.nat = 1 % n.1.nat := by
  rcases gE h with rfl | rfl <;> decide +kernel
theorem adM {n : KQ} (h : iS n = true) : 2 * n.1.nat ≤ 115792089237316195423570985008687907853269984665640564039457584007913129639936 := by
  rcases gE h with rfl | rfl <;> decide +kernel
theorem apR (n : Nat) : tab (l6 n) 6 0 = l6 n := rfl
theorem ahK {n : Nat} (h : n / 18446744073709551616 / 18446744073709551616 / 18446744073709551616 / 18446744073709551616 / 18446744073709551616 / 18446744073709551616 = 0) :
    [UInt64.ofNat (n / 18446744073709551616), UInt64.ofNat (n / 18446744073709551616 / 18446744073709551616), UInt64.ofNat (n / 18446744073709551616 / 18446744073709551616 / 18446744073709551616),
      UInt64.ofNat (n / 18446744073709551616 / 18446744073709551616 / 18446744073709551616 / 18446744073709551616), UInt64.ofNat (n / 18446744073709551616 / 18446744073709551616 / 18446744073709551616 / 18446744073709551616 / 18446744073709551616), 0] = l6 (n / 18446744073709551616) := by
  unfold l6
  rw [h]
  rfl
theorem apT (a b : Nat) : lay (l6 a) (l6 b) 6 0 = l6 b := adu rfl rfl
theorem afJ (U : Nat) (neg : UInt64) : (List.getD (l6 U) 0 0 * neg).toNat = U * neg.toNat % 18446744073709551616 := by
  show (UInt64.ofNat U * neg).toNat = _
  rw [UInt64.toNat_mul, UInt64.toNat_ofNat', Nat.mul_mod, Nat.mod_mod, ← Nat.mul_mod]
theorem XX (b : aa) (k : Nat) (hk : k < 4) (x0 x1 x2 x3 x5 x6 x7 x8 x9 x10 : UInt64) (x4 : Int) (c1 c2 : List UInt64) (T : Nat) (h1 : c1.length = 4) (hT : T < 2 * (aa.mk x0 x1 x2 x3).nat)
    (hn : ((aa.mk x0 x1 x2 x3).nat * x6.toNat + 1) % 18446744073709551616 = 0) (hp : 2 * (aa.mk x0 x1 x2 x3).nat ≤ 115792089237316195423570985008687907853269984665640564039457584007913129639936) (ha : (elemOf c1).nat < (aa.mk x0 x1 x2 x3).nat) :
    (JA b (k : Int) x0 x1 x2 x3 x4 x5 x6 x7 x8 x9 x10 c1 c2 (l6 T)).run = some (.inl (((), (), (), (), b, ((k + 1 : Nat) : Int), ()), ((x0, x1, x2, x3, x4, x5, x6, x7, x8, x9, x10, ()), c1, c2, l6 (Bx (aa.mk x0 x1 x2 x3).nat x6.toNat (elemOf c1).nat ((lst b).getD k 0).toNat T), ()))) := by
  have hlt := qa (b := ((lst b).getD k 0).toNat) hn hT ha (UInt64.toNat_lt _)
  have heq := qb (a := (elemOf c1).nat) (b := ((lst b).getD k 0).toNat) (t := T) hn
  have hrd : Bx (aa.mk x0 x1 x2 x3).nat x6.toNat (elemOf c1).nat ((lst b).getD k 0).toNat T = (T + (elemOf c1).nat * ((lst b).getD k 0).toNat + (aa.mk x0 x1 x2 x3).nat * ((T + (elemOf c1).nat * ((lst b).getD k 0).toNat) * x6.toNat % 18446744073709551616)) / 18446744073709551616 := rfl
  generalize hU : T + (elemOf c1).nat * ((lst b).getD k 0).toNat = U at heq hrd
  generalize hV : U + (aa.mk x0 x1 x2 x3).nat * (U * x6.toNat % 18446744073709551616) = V at heq hrd
  generalize Bx (aa.mk x0 x1 x2 x3).nat x6.toNat (elemOf c1).nat ((lst b).getD k 0).toNat T = S at *
  have hVU : U ≤ V := by rw [← hV]; exact Nat.le_add_right _ _
  have hz1 : lay (l6 T) (l6 (v6 (tab (l6 T) 6 0) + aa.nat { w0 := List.getD c1 0 0, w1 := List.getD c1 1 0, w2 := List.getD c1 2 0, w3 := List.getD c1 3 0 } * UInt64.toNat (List.getD [b.w0, b.w1, b.w2, b.w3] (Int.toNat (k : Int)) 0))) 6 0 = l6 U := by
    rw [apR, ano (by omega), apT, Int.toNat_natCast]
    exact congrArg l6 hU
  have hz3 : lay (l6 U) (l6 (v6 (tab (l6 U) 6 0) + aa.nat { w0 := x0, w1 := x1, w2 := x2, w3 := x3 } * UInt64.toNat (List.getD (l6 U) 0 0 * x6))) 6 0 = l6 V := by
    rw [apR, ano (by omega), apT, afJ, hV]
  have hsh : _ = l6 (V / 18446744073709551616) := ahK (n := V) (by omega)
  unfold JA
  simp only [hz1, hz3]
  refine (OT.ao (decide_eq_true (by omega))).trans ((ai ?_).trans ?_)
  · simp only [adx, h1, List.all_cons, List.all_nil, Bool.and_true, Bool.and_eq_true]
    exact ⟨bJ (by omega), rfl, rfl, rfl, rfl, rfl, rfl, rfl, rfl, rfl, rfl, rfl, rfl, bC (by omega)⟩
  · rw [hrd]
    exact congrArg (fun l => some (Sum.inl (((), (), (), (), b, ((k + 1 : Nat) : Int), ()), ((x0, x1, x2, x3, x4, x5, x6, x7, x8, x9, x10, ()), c1, c2, l, ())))) hsh
def ae5 (s : cj) : aa := ⟨s.2.1.1, s.2.1.2.1, s.2.1.2.2.1, s.2.1.2.2.2.1⟩
def amQ (s : cj) : UInt64 := s.2.1.2.2.2.2.2.2.1
def Nh (s : cj) : Bool := decide (s.1.2.2.2.2.2.1 = 0 ∧ s.2.2.1.length = 4 ∧ s.2.2.2.2.1 = l6 0 ∧ ((ae5 s).nat * (amQ s).toNat + 1) % 18446744073709551616 = 0 ∧ 2 * (ae5 s).nat ≤ 115792089237316195423570985008687907853269984665640564039457584007913129639936 ∧ (elemOf s.2.2.1).nat < (ae5 s).nat)
def Jz (s : cj) : ke := (((), (), (), ()), (s.2.1, s.2.2.2.1, l6 (an2 (ae5 s).nat (amQ s).toNat (elemOf s.2.2.1).nat s.1.2.2.2.2.1), ()))
theorem ahS : ∀ s : cj, Nh s = true → ∃ m e, au u7 m s = some e ∧ (A6 Jz s).run = some e := by
  rintro ⟨⟨⟨⟩, ⟨⟩, ⟨⟩, ⟨⟩, b, i, ⟨⟩⟩, ⟨⟨x0, x1, x2, x3, x4, x5, x6, x7, x8, x9, x10, ⟨⟩⟩, c1, c2, c3, ⟨⟩⟩⟩ h
  have h' := of_decide_eq_true h
  dsimp only [ae5, amQ] at h'
  obtain ⟨rfl, h1, rfl, hn, hp, ha⟩ := h'
  have := (bF (T := u7) (fun k T => ((((), (), (), (), b, (k : Int), ()), ((x0, x1, x2, x3, x4, x5, x6, x7, x8, x9, x10, ()), c1, c2, l6 T, ())) : cj)) (fun k T => Bx (aa.mk x0 x1 x2 x3).nat x6.toNat (elemOf c1).nat ((lst b).getD k 0).toNat T)
    (fun T => (⟨(.exit 0, qS), (((), (), (), ()), ((x0, x1, x2, x3, x4, x5, x6, x7, x8, x9, x10, ()), c2, l6 T, ()))⟩ : aO)) 4 0 (fun _ T => T < 2 * (aa.mk x0 x1 x2 x3).nat) (by omega) (fun k T hk hT => ⟨?_, ?_⟩) (fun T hT => ?_)).1
  · obtain ⟨m, hm⟩ := this
    exact ⟨m, _, hm, rfl⟩
  · exact XX b k hk x0 x1 x2 x3 x5 x6 x7 x8 x9 x10 x4 c1 c2 T h1 hT hn hp ha
  · exact qa hn hT ha (UInt64.toNat_lt _)
  · exact OT.ap (decide_eq_false (by dsimp only; omega))
def pc (x : G6) : Bool := iS x.1.1 && Nat.blt x.1.2.1.nat x.1.1.1.nat
def adU (x : G6) : OT iT.Y := .ok ⟨qR, ((ofN (x.1.2.1.nat * x.1.2.2.1.nat * agu x.1.1 % x.1.1.1.nat), ()), ())⟩
theorem ahR : ab Try.prog 110 (iT.aK pc adU) := XY Nh Jz ahS _ _ fun x oy hp ho => by
  rw [← ho]
  clear ho
  obtain ⟨⟨⟨⟨m0, m1, m2, m3⟩, ad, sm, neg, sq⟩, a, b, ⟨⟩⟩, ⟨⟩⟩ := x
  have hp' : (iS (⟨m0, m1, m2, m3⟩, ad, sm, neg, sq) && Nat.blt a.nat (aa.mk m0 m1 m2 m3).nat) = true := hp
  rw [Bool.and_eq_true] at hp'
  obtain ⟨hg, ha⟩ := hp'
  have ha := cL ha
  have hn : ((aa.mk m0 m1 m2 m3).nat * neg.toNat + 1) % 18446744073709551616 = 0 := adO hg
  have h2 : 2 * (aa.mk m0 m1 m2 m3).nat ≤ 115792089237316195423570985008687907853269984665640564039457584007913129639936 := adM hg
  have hr : 115792089237316195423570985008687907853269984665640564039457584007913129639936 * agu (⟨m0, m1, m2, m3⟩, ad, sm, neg, sq) % (aa.mk m0 m1 m2 m3).nat = 1 % (aa.mk m0 m1 m2 m3).nat := adP hg
  have hM := ahv (a := a.nat) (b := b) hn hr
  have hL := alU (b := b) hn ha
  refine (ai ?_).trans ?_
  · simp only [List.all_cons, List.all_nil, Bool.and_true, Bool.and_eq_true]
    exact ⟨decide_eq_true ⟨rfl, rfl, rfl, hn, h2, ha⟩, rfl, rfl, rfl⟩
  · show _ = (OT.ok ⟨qR, ((ofN (a.nat * b.nat * agu (⟨m0, m1, m2, m3⟩, ad, sm, neg, sq) % (aa.mk m0 m1 m2 m3).nat), ()), ())⟩ : OT iT.Y).run
    rw [← hM, alV hL]
    have e0 : Jz (((), (), (), (), b, 0, ()), ((m0, m1, m2, m3, ad, sm, neg, sq.w0, sq.w1, sq.w2, sq.w3, ()), [a.w0, a.w1, a.w2, a.w3], [0, 0, 0, 0], [0, 0, 0, 0, 0, 0], ())) = (((), (), (), ()), ((m0, m1, m2, m3, ad, sm, neg, sq.w0, sq.w1, sq.w2, sq.w3, ()), [0, 0, 0, 0], l6 (an2 (aa.mk m0 m1 m2 m3).nat neg.toNat a.nat b), ())) := rfl
    dsimp only
    rw [e0]
    clear e0 hM
    generalize an2 (aa.mk m0 m1 m2 m3).nat neg.toNat a.nat b = M at *
    have e4 : List.getD (l6 M) 4 0 = 0 := by
      show UInt64.ofNat (M / 18446744073709551616 / 18446744073709551616 / 18446744073709551616 / 18446744073709551616) = 0
      rw [show M / 18446744073709551616 / 18446744073709551616 / 18446744073709551616 / 18446744073709551616 = 0 by omega]
      rfl
    refine (OT.ap (by rw [e4]; rfl)).trans ?_
    have eN : (ofN M).nat = M := gY (by omega)
    by_cases hlt : M < (aa.mk m0 m1 m2 m3).nat
    · rw [if_pos hlt]
      refine (OT.ap ?_).trans ((ai rfl).trans rfl)
      show (!Nat.blt (ofN M).nat (aa.mk m0 m1 m2 m3).nat) = false
      rw [eN, show Nat.blt M (aa.mk m0 m1 m2 m3).nat = true from Nat.ble_eq_true_of_le hlt]
      rfl
    · rw [if_neg hlt]
      refine (OT.ao ?_).trans ((ai rfl).trans ?_)
      · show (!Nat.blt (ofN M).nat (aa.mk m0 m1 m2 m3).nat) = true
        rw [eN]
        cases hb : Nat.blt M (aa.mk m0 m1 m2 m3).nat
        · rfl
        · exact absurd (cL hb) hlt
      · have ew : (lb (ofN M) (aa.mk m0 m1 m2 m3)).1 = ofN (M - (aa.mk m0 m1 m2 m3).nat) := by
          apply jV
          rw [mI (by omega), eN, gY (by omega)]
        rw [← ew]
        rfl
def yd : cI := (iT.aK pc adU)
theorem Rr : ab Try.prog 110 yd := ahR
theorem Rq : aJ yd := aA
def EO : Env := az 110 yd HQ
theorem yY : aV Try.prog EO := ag Rr wa
theorem Ai : aw EO := ac Rq E9
theorem SN : bg Try.prog te EO := aN follows av yY Ai
def iU : aq := ⟨[.val true (.prod .elem (.prod .int (.prod .u64 (.prod .u64 .elem)))), .val true .elem, .val true .elem], [], true, 0, false⟩
abbrev G9 : Type := (((aa × (Int × (UInt64 × (UInt64 × aa))))) × (aa) × (aa) × Unit) × (Unit)
def nt : ay := ⟨[.val true .elem], [], false⟩
def Nt : SV → Option ay := fun _ => some nt
def sU (a0 : (aa × (Int × (UInt64 × (UInt64 × aa))))) (a1 : aa) (a2 : aa) : OT iU.Y :=
  let z0 : Bool := !a0.snd.snd.fst == (0 : UInt64)
  let z1 : Nat := aa.nat a0.fst
  let z2 : aa := ofN (aa.nat a1 % z1)
  let z3 : aa := ofN (aa.nat a2 % z1)
  let z4 : Nat := agu a0
  let z5 : aa := ofN (aa.nat z2 * aa.nat z3 * z4 % z1)
  (gd [gF ((a0, a1, ()), ()), gF ((a0, a2, ()), ())] (.br (z0)
  (gd [z0] (.ok ⟨nt, (({ w0 := z2.w0 * z3.w0 % a0.snd.snd.fst, w1 := 0, w2 := 0, w3 := 0 }, ()), ())⟩))
  (gd [pc ((a0, z2, z3, ()), ()), pc ((a0, z5, a0.snd.snd.snd.snd, ()), ())] (.ok ⟨nt, ((ofN (aa.nat z5 * aa.nat a0.snd.snd.snd.snd * z4 % z1), ()), ())⟩))))
theorem ami (x : G9) (Q : iU.Y → Prop) : wpf te EO ax 1000 Try.f92 (iU.inp.inj x).tm (iU.inp.inj x).hp (fnK iU Nt Q) (fun _ _ => False) = (sU (x.1.1) (x.1.2.1) (x.1.2.2.1)).wpR Q := by kernel_rfl
theorem Yc (pre : G9 → Bool) (F : G9 → OT iU.Y) (hF : ∀ (x : G9) oy, pre x = true → (F x).run = some oy → (sU (x.1.1) (x.1.2.1) (x.1.2.2.1)).run = some oy) : ab Try.prog 92 (iU.aK pre F) :=
  aD av yY SN (f := 92) (fn := Try.f92) (c := ak Try.f92) (by kernel_rfl) (by kernel_rfl) (by kernel_rfl) (S := iU) (k := 0) (by kernel_rfl) (fun R hR => ae) (n := 1000) (sel := Nt) (fun v o h => by cases h; rfl) (pre := pre) (F := F) (T := fun x => sU (x.1.1) (x.1.2.1) (x.1.2.2.1)) (fun x Q => ami x Q) hF
theorem ac7 {p A B r s : Nat} (h : r * s * r % p = 1 % p) : A * B * r % p * s * r % p = A * B % p := by
  have e : A * B * r * (s * r) = A * B * (r * s * r) := by
    rw [Nat.mul_assoc (A * B) r (s * r), Nat.mul_assoc r s r]
  rw [Nat.mul_assoc, Nat.mul_mod, Nat.mod_mod, ← Nat.mul_mod, e, Nat.mul_mod, h, ← Nat.mul_mod, Nat.mul_one]
theorem ahO {n : KQ} (h : iS n = true) : agu n * n.2.2.2.2.nat * agu n % n.1.nat = 1 % n.1.nat := by
  rcases gE h with rfl | rfl <;> decide +kernel
theorem aoh : iS (bQ 2) = true := by decide +kernel
theorem aog : iS (bQ 3) = true := by decide +kernel
theorem adN {n : KQ} (h : iS n = true) : n5 n = true := by
  rcases gE h with rfl | rfl <;> decide +kernel
theorem zE {n : KQ} {a b : aa} {m : UInt64} (hn0 : n5 n = true) (h1 : n.1 = ⟨m, 0, 0, 0⟩) (h2 : n.2.2.1 = m) (hs : eV m = true) : (sU n a b).run = some ⟨nt, ((aQ n.1.nat a b, ()), ())⟩ := by
  have hm := jy hs
  have hb' : m.toNat ≤ 16521217 := by rcases dw hs with rfl | rfl <;> decide
  have hn : n.1.nat = m.toNat := by rw [h1]; show m.toNat + _ * (0 + _ * (0 + _ * 0)) = _; omega
  have hz : (!(n.2.2.1 == 0)) = true := by
    rw [h2]
    rcases dw hs with rfl | rfl <;> rfl
  have ha := Nat.mod_lt a.nat hm
  have hb := Nat.mod_lt b.nat hm
  have hab : a.nat % m.toNat * (b.nat % m.toNat) < 18446744073709551616 := by
    have : a.nat % m.toNat * (b.nat % m.toNat) ≤ 16521217 * 16521217 := Nat.mul_le_mul (by omega) (by omega)
    omega
  have e : UInt64.ofNat (a.nat % m.toNat) * UInt64.ofNat (b.nat % m.toNat) % m = UInt64.ofNat (a.nat * b.nat % m.toNat) := by
    have hlt := Nat.mod_lt (a.nat * b.nat) hm
    rw [← UInt64.toNat_inj, UInt64.toNat_mod, UInt64.toNat_mul, UInt64.toNat_ofNat', UInt64.toNat_ofNat', UInt64.toNat_ofNat', Nat.mod_eq_of_lt (a := a.nat % m.toNat) (by omega), Nat.mod_eq_of_lt (a := b.nat % m.toNat) (by omega),
      Nat.mod_eq_of_lt (a := a.nat % m.toNat * (b.nat % m.toNat)) (by omega), Nat.mod_eq_of_lt (a := a.nat * b.nat % m.toNat) (by omega), ← Nat.mul_mod]
  have hlt := Nat.mod_lt (a.nat * b.nat) hm
  unfold sU
  refine (ai ?_).trans ((OT.ao hz).trans ((ai ?_).trans ?_))
  · simp only [List.all_cons, List.all_nil, Bool.and_true, Bool.and_eq_true]
    exact ⟨hn0, hn0⟩
  · simp only [hz, List.all_cons, List.all_nil, Bool.and_true]
  · unfold aQ
    rw [hn, oK (n := a.nat * b.nat % m.toNat) (by omega), ← e]
    show some (⟨nt, ((⟨UInt64.ofNat (a.nat % m.toNat) * UInt64.ofNat (b.nat % m.toNat) % n.2.2.1, 0, 0, 0⟩, ()), ())⟩ : iU.Y) = _
    rw [h2]
theorem Dv {n : KQ} {a b : aa} (h : iS n = true) (h2 : n.2.2.1 = 0) : (sU n a b).run = some ⟨nt, ((aQ n.1.nat a b, ()), ())⟩ := by
  have hn0 := adN h
  have hp := uM hn0
  have hz : (!(n.2.2.1 == 0)) = false := by rw [h2]; rfl
  have e1 : (ofN (a.nat % n.1.nat)).nat = a.nat % n.1.nat := cM hp
  have e2 : (ofN (b.nat % n.1.nat)).nat = b.nat % n.1.nat := cM hp
  have e3 : (ofN (a.nat % n.1.nat * (b.nat % n.1.nat) * agu n % n.1.nat)).nat = a.nat % n.1.nat * (b.nat % n.1.nat) * agu n % n.1.nat := cM hp
  unfold sU
  refine (ai ?_).trans ((OT.ap hz).trans ((ai ?_).trans ?_))
  · simp only [List.all_cons, List.all_nil, Bool.and_true, Bool.and_eq_true]
    exact ⟨hn0, hn0⟩
  · simp only [List.all_cons, List.all_nil, Bool.and_true, Bool.and_eq_true, pc, h, true_and, e1, e2, e3]
    exact ⟨Nat.ble_eq_true_of_le (Nat.mod_lt _ hp.1), Nat.ble_eq_true_of_le (Nat.mod_lt _ hp.1)⟩
  · simp only [e1, e2, e3, ac7 (ahO h), aQ, ← Nat.mul_mod]
    rfl
def pg (x : G9) : Bool := n5 x.1.1
def ad7 (x : G9) : OT iU.Y := .ok ⟨nt, ((aQ x.1.1.1.nat x.1.2.1 x.1.2.2.1, ()), ())⟩
theorem ahY : ab Try.prog 92 (iU.aK pg ad7) := Yc _ _ fun x oy hp ho => by
  rw [← ho]
  clear ho
  obtain ⟨⟨n, a, b, ⟨⟩⟩, ⟨⟩⟩ := x
  have hp' : n5 n = true := hp
  rcases sC hp' with rfl | rfl | rfl | rfl
  · exact zE hp' (m := 16513537) rfl rfl rfl
  · exact zE hp' (m := 16521217) rfl rfl rfl
  · exact Dv aoh rfl
  · exact Dv aog rfl
def yf : cI := (iU.aK pg ad7)
theorem Ry : ab Try.prog 92 yf := ahY
theorem Rx : aJ yf := aA
def EW : Env := az 92 yf EO
theorem y0 : aV Try.prog EW := ag Ry yY
theorem Ak : aw EW := ac Rx Ai
theorem SP : bg Try.prog te EW := aN follows av y0 Ak
def pf : aq := ⟨[.val false .int, .val true .elem, .val true .elem], [], true, 0, false⟩
abbrev Yb : Type := ((Int) × (aa) × (aa) × Unit) × (Unit)
def Du : ay := ⟨[.val true .elem], [], false⟩
def Vq : SV → Option ay := fun _ => some Du
def ad6 (a0 : Int) (a1 : aa) (a2 : aa) : OT pf.Y :=
  let z0 : aa × Int × UInt64 × UInt64 × aa := bQ (Int.toNat a0)
  (.br (aj a0)
  (gd [pg ((z0, a1, a2, ()), ())] (.ok ⟨Du, ((aQ (aa.nat z0.fst) a1 a2, ()), ())⟩))
  (.ok ⟨Du, (({ w0 := 0, w1 := 0, w2 := 0, w3 := 0 }, ()), ())⟩))
theorem aos (x : Yb) (Q : pf.Y → Prop) : wpf te EW ax 1000 Try.f60 (pf.inp.inj x).tm (pf.inp.inj x).hp (fnK pf Vq Q) (fun _ _ => False) = (ad6 (x.1.1) (x.1.2.1) (x.1.2.2.1)).wpR Q := by kernel_rfl
theorem ad5 (pre : Yb → Bool) (F : Yb → OT pf.Y) (hF : ∀ (x : Yb) oy, pre x = true → (F x).run = some oy → (ad6 (x.1.1) (x.1.2.1) (x.1.2.2.1)).run = some oy) : ab Try.prog 60 (pf.aK pre F) :=
  aD av y0 SP (f := 60) (fn := Try.f60) (c := ak Try.f60) (by kernel_rfl) (by kernel_rfl) (by kernel_rfl) (S := pf) (k := 0) (by kernel_rfl) (fun R hR => ae) (n := 1000) (sel := Vq) (fun v o h => by cases h; rfl) (pre := pre) (F := F) (T := fun x => ad6 (x.1.1) (x.1.2.1) (x.1.2.2.1)) (fun x Q => aos x Q) hF
def Vr (_ : Yb) : Bool := true
def ai7 (x : Yb) : OT pf.Y := .br (aj x.1.1) (.ok ⟨Du, ((aQ (pS x.1.1) x.1.2.1 x.1.2.2.1, ()), ())⟩) (.ok ⟨Du, ((⟨0, 0, 0, 0⟩, ()), ())⟩)
theorem amh : ab Try.prog 60 (pf.aK Vr ai7) := ad5 _ _ fun x oy hp ho => by
  rw [← ho]
  clear ho
  obtain ⟨⟨s, a, b, ⟨⟩⟩, ⟨⟩⟩ := x
  cases hs : aj s
  · exact (OT.ap hs).trans (OT.ap (b := aj s) hs).symm
  · refine (OT.ao hs).trans ((ai ?_).trans (OT.ao (b := aj s) hs).symm)
    simp only [List.all_cons, List.all_nil, Bool.and_true]
    exact qC hs
def Dt : cI := (pf.aK Vr ai7)
theorem Ya : ab Try.prog 60 Dt := amh
theorem X9 : aJ Dt := aA
def OX : Env := az 60 Dt EW
theorem EU : aV Try.prog OX := ag Ya y0
theorem EV : aw OX := ac X9 Ak
theorem Zl : bg Try.prog te OX := aN follows av EU EV
def kh : aq := ⟨[.val true .elem], [], true, 0, false⟩
abbrev Hd : Type := ((aa) × Unit) × (Unit)
def JK : ay := ⟨[.val true .elem], [], false⟩
def Nz : SV → Option ay := fun _ => some JK
def RC (a0 : aa) : OT kh.Y :=
  (.ok ⟨JK, (({ w0 := bu a0.w0 (1 : Int) ||| cD a0.w1 (63 : Int), w1 := bu a0.w1 (1 : Int) ||| cD a0.w2 (63 : Int), w2 := bu a0.w2 (1 : Int) ||| cD a0.w3 (63 : Int), w3 := bu a0.w3 (1 : Int) }, ()), ())⟩)
theorem amm (x : Hd) (Q : kh.Y → Prop) : wpf te OX ax 1000 Try.f102 (kh.inp.inj x).tm (kh.inp.inj x).hp (fnK kh Nz Q) (fun _ _ => False) = (RC (x.1.1)).wpR Q := by kernel_rfl
theorem Yn (pre : Hd → Bool) (F : Hd → OT kh.Y) (hF : ∀ (x : Hd) oy, pre x = true → (F x).run = some oy → (RC (x.1.1)).run = some oy) : ab Try.prog 102 (kh.aK pre F) :=
  aD av EU Zl (f := 102) (fn := Try.f102) (c := ak Try.f102) (by kernel_rfl) (by kernel_rfl) (by kernel_rfl) (S := kh) (k := 0) (by kernel_rfl) (fun R hR => ae) (n := 1000) (sel := Nz) (fun v o h => by cases h; rfl) (pre := pre) (F := F) (T := fun x => RC (x.1.1)) (fun x Q => amm x Q) hF
theorem C7 (x y : UInt64) : (bu x 1 ||| cD y 63).toNat = x.toNat / 2 + 9223372036854775808 * (y.toNat % 2) := by
  have hx := x.toNat_lt
  have e1 : (bu x 1).toNat = x.toNat / 2 := fW x 1 (by omega)
  have e2 : (cD y 63).toNat = 9223372036854775808 * (y.toNat % 2) := by
    have := lp y 63 (by omega)
    have e : (cD y 63).toNat = y.toNat * 2 ^ 63 % 2 ^ 64 := this
    rw [e]
    omega
  rw [UInt64.toNat_or, e1, e2, Nat.or_comm]
  have := Nat.two_pow_add_eq_or_of_lt (i := 63) (b := x.toNat / 2) (by omega) (y.toNat % 2)
  rw [Nat.add_comm]
  exact this.symm
theorem C8 (x N : Nat) : (x + 18446744073709551616 * N) / 2 = (x / 2 + 9223372036854775808 * (N % 2)) + 18446744073709551616 * (N / 2) := by
  omega
theorem Rd (y N : Nat) : (y + 18446744073709551616 * N) % 2 = y % 2 := by
  omega
def fm (a : aa) : aa := ofN (a.nat / 2)
theorem Vd (a : aa) : fm a = ⟨bu a.w0 1 ||| cD a.w1 63, bu a.w1 1 ||| cD a.w2 63, bu a.w2 1 ||| cD a.w3 63, bu a.w3 1⟩ := by
  refine acG (k := 0) ?_
  rw [C7, C7, C7, Nat.mul_zero, Nat.add_zero]
  unfold Sx.aa.nat
  have e3 : (bu a.w3 1).toNat = a.w3.toNat / 2 := fW a.w3 1 (by omega)
  rw [C8, Rd, C8, Rd, C8, e3]
def NA (_ : Hd) : Bool := true
def RD (x : Hd) : OT kh.Y := .ok ⟨JK, ((fm x.1.1, ()), ())⟩
theorem ahZ : ab Try.prog 102 (kh.aK NA RD) := Yn _ _ fun x oy hp ho => by
  rw [← ho]
  clear ho
  obtain ⟨⟨a, ⟨⟩⟩, ⟨⟩⟩ := x
  simp only [RD, Vd]
  rfl
def yg : cI := (kh.aK NA RD)
theorem RB : ab Try.prog 102 yg := ahZ
theorem RA : aJ yg := aA
def y9 : Env := az 102 yg OX
theorem rB : aV Try.prog y9 := ag RB EU
theorem Al : aw y9 := ac RA EV
theorem E3 : bg Try.prog te y9 := aN follows av rB Al
def ef : aq := ⟨[.val true .elem, .val false .int], [], true, 0, false⟩
abbrev qW : Type := ((aa) × (Int) × Unit) × (Unit)
def mh : Shape := ⟨12, [(2, .ptr 0 0 0), (4, .ptr 1 0 0), (5, .val false .int), (6, .val false .int)], [(0, .row .u64), (1, .row .u64)], 0, true⟩
abbrev bM : Type := ((Unit) × (Unit) × (Int) × (Int) × Unit) × ((List (UInt64)) × (List (UInt64)) × Unit)
def kR : Shape := ⟨12, [(2, .ptr 0 0 0), (4, .ptr 1 0 0)], [(0, .row .u64), (1, .row .u64)], 0, true⟩
abbrev gG : Type := ((Unit) × (Unit) × Unit) × ((List (UInt64)) × (List (UInt64)) × Unit)
def Hb : SE → Option Shape := ku [(0, kR)] none
def Ym (a5 : Int) (a6 : Int) (c0 : List (UInt64)) (c1 : List (UInt64)) : OT (Sum bM aO) :=
  let z0 : Nat := List.length c0
  let z1 : aa := fm { w0 := List.getD c0 0 0, w1 := List.getD c0 1 0, w2 := List.getD c0 2 0, w3 := List.getD c0 3 0 }
  (.br (decide (a6 < a5))
  (gd [decide (4 ≤ z0), decide ((4 / 1 : Nat) + 0 ≤ z0), inR (a6 + (1 : Int))] (.ok (.inl (((), ((), (a5, (a6 + (1 : Int), ())))), (List.set (List.set (List.set (List.set c0 0 z1.w0) 1 z1.w1) 2 z1.w2) 3 z1.w3, (c1, ()))))))
  (.ok (.inr ⟨(.exit 0, kR), (((), ((), ())), (c0, (c1, ())))⟩)))
def mj (s : bM) : OT (Sum bM aO) := Ym (s.1.2.2.1) (s.1.2.2.2.1) (s.2.1) (s.2.2.1)
theorem Yj (s : bM) (Q : Sum bM aO → Prop) : wps te y9 ax 1000 (bG (ak Try.f99) 0) (mh.inj s) (cU mh Hb (Q : Sum mh.T aO → Prop)) = (mj s).wpR Q := by kernel_rfl
def qV (g0_0 : bM → gG) (s : bM) : OT aO := (.ok ⟨(.exit 0, kR), g0_0 s⟩)
def mi : ay := ⟨[.val true .elem], [], false⟩
def DB : SV → Option ay := fun _ => some mi
def DE (ok0 : bM → Bool) (g0_0 : bM → gG) (a0 : aa) (a1 : Int) : OT ef.Y :=
  let z0 : (PUnit × PUnit × Int × Int × PUnit) × List UInt64 × List UInt64 × PUnit := (((), (), a1, (0 : Int), ()), [a0.w0, a0.w1, a0.w2, a0.w3], [(0 : UInt64), (0 : UInt64), (0 : UInt64), (0 : UInt64)], ())
  let z1 := (g0_0 z0).snd
  let z2 := z1.fst
  let z3 := z1.snd.fst
  let z4 : List UInt64 := lay z3 z2 4 (0 : UInt64)
  (gd [ok0 z0, decide (4 ≤ List.length z2), decide ((4 / 1 : Nat) + 0 ≤ List.length z3), decide (4 ≤ List.length z4)] (.ok ⟨mi, (({ w0 := List.getD z4 0 0, w1 := List.getD z4 1 0, w2 := List.getD z4 2 0, w3 := List.getD z4 3 0 }, ()), ())⟩))
theorem aec (ok0 : bM → Bool) (g0_0 : bM → gG) (x : qW) (Q : ef.Y → Prop) : wpf te y9 (bp 0 (dv mh 0 ok0 (qV g0_0)) ax) 1000 Try.f99 (ef.inp.inj x).tm (ef.inp.inj x).hp (fnK ef DB Q) (fun _ _ => False) = (DE ok0 g0_0 (x.1.1) (x.1.2.1)).wpR Q := by kernel_rfl
theorem Nx (ok0 : bM → Bool) (g0_0 : bM → gG) (h0 : ∀ s : bM, ok0 s = true → ∃ m e, au (mj) m s = some e ∧ (qV g0_0 s).run = some e) (pre : qW → Bool) (F : qW → OT ef.Y) (hF : ∀ (x : qW) oy, pre x = true → (F x).run = some oy → (DE ok0 g0_0 (x.1.1) (x.1.2.1)).run = some oy) : ab Try.prog 99 (ef.aK pre F) :=
  aD av rB E3 (f := 99) (fn := Try.f99) (c := ak Try.f99) (by kernel_rfl) (by kernel_rfl) (by kernel_rfl) (S := ef) (k := 0) (by kernel_rfl) (fun R hR => (aI (c := (ak Try.f99)) (by kernel_rfl) (id := 0) (by kernel_rfl) (bw av rB E3 (sh := mh) hR (xs := Hb) (aH (by kernel_rfl) (by kernel_rfl) hR) aW ae (n := 1000) (T := mj) (fun s Q => Yj s Q) (ok := ok0) (f := qV g0_0) h0) ae)) (n := 1000) (sel := DB) (fun v o h => by cases h; rfl) (pre := pre) (F := F) (T := fun x => DE ok0 g0_0 (x.1.1) (x.1.2.1)) (fun x Q => aec ok0 g0_0 x Q) hF
def eW (a : aa) (n : Nat) : aa := ofN (a.nat / 2 ^ n)
theorem sR (a : aa) : ∀ n, upto (fun _ e => fm e) a n = eW a n
  | 0 => by
    show a = ofN (a.nat / 2 ^ 0)
    rw [Nat.pow_zero, Nat.div_one, qB]
  | n + 1 => by
    show fm (upto (fun _ e => fm e) a n) = _
    rw [sR a n]
    unfold fm eW
    have := gn a
    have h2 : a.nat / 2 ^ n ≤ a.nat := Nat.div_le_self _ _
    rw [gY (by omega), Nat.div_div_eq_div_mul, ← Nat.pow_succ]
def DD (s : bM) : Bool := decide (s.1.2.2.2.1 = 0 ∧ 0 ≤ s.1.2.2.1 ∧ s.1.2.2.1 ≤ 1000000 ∧ s.2.1.length = 4)
def Hc (s : bM) : gG := (((), (), ()), (lst (eW (elemOf s.2.1) s.1.2.2.1.toNat), s.2.2.1, ()))
theorem Yl : ∀ s : bM, DD s = true → ∃ m e, au mj m s = some e ∧ (qV Hc s).run = some e := by
  rintro ⟨⟨⟨⟩, ⟨⟩, k, i, ⟨⟩⟩, ⟨l, o, ⟨⟩⟩⟩ h
  have h' := of_decide_eq_true h
  dsimp only at h'
  obtain ⟨rfl, h0, h1, hl⟩ := h'
  obtain ⟨a, rfl⟩ : ∃ a, l = lst a := ⟨elemOf l, (bc hl).symm⟩
  have := (bF (T := mj) (fun i a => ((((), (), k, (i : Int), ()), (lst a, o, ())) : bM)) (fun _ e => fm e)
    (fun a => (⟨(.exit 0, kR), (((), (), ()), (lst a, o, ()))⟩ : aO)) k.toNat a (fun _ _ => True) trivial (fun i a hi _ => ⟨?_, trivial⟩) (fun a _ => ?_)).1
  · rw [sR] at this
    obtain ⟨m, hm⟩ := this
    exact ⟨m, _, hm, rfl⟩
  · refine (OT.ao (decide_eq_true (by dsimp only; omega))).trans ((ai ?_).trans rfl)
    simp only [List.all_cons, List.all_nil, Bool.and_true, Bool.and_eq_true]
    exact ⟨rfl, rfl, bC (by omega)⟩
  · exact OT.ap (decide_eq_false (by dsimp only; omega))
def DC (x : qW) : Bool := decide (0 ≤ x.1.2.1 ∧ x.1.2.1 ≤ 1000000)
def Ny (x : qW) : OT ef.Y := .ok ⟨mi, ((eW x.1.1 x.1.2.1.toNat, ()), ())⟩
theorem Yk : ab Try.prog 99 (ef.aK DC Ny) := Nx DD Hc Yl _ _ fun x oy hp ho => by
  rw [← ho]
  clear ho
  obtain ⟨⟨a, k, ⟨⟩⟩, ⟨⟩⟩ := x
  have hp' : 0 ≤ k ∧ k ≤ 1000000 := of_decide_eq_true hp
  refine (ai ?_).trans ?_
  · simp only [List.all_cons, List.all_nil, Bool.and_true, Bool.and_eq_true]
    exact ⟨decide_eq_true ⟨rfl, hp'.1, hp'.2, rfl⟩, rfl, rfl, rfl⟩
  · show some (⟨mi, ((elemOf (lay [0, 0, 0, 0] (lst (eW a k.toNat)) 4 0), ()), ())⟩ : ef.Y) = some ⟨mi, ((eW a k.toNat, ()), ())⟩
    rw [am2 _ _ rfl rfl]
    rfl
def pk : cI := (ef.aK DC Ny)
theorem JJ : ab Try.prog 99 pk := Yk
theorem JI : aJ pk := aA
def mE : Env := az 99 pk y9
theorem kZ : aV Try.prog mE := ag JJ rB
theorem rW : aw mE := ac JI Al
theorem v9 : bg Try.prog te mE := aN follows av kZ rW
end Go.Proofs.Ytkedomfjjahjnaa

namespace Go.Proofs.Ytkedomfjjahjnaa
open Sx Go
def cr (k : aa) : Bool := (k.w0 == 0 && (k.w1 == 0 && (k.w2 == 0 && (k.w3 == 0 && true))))
def ao4 (k : aa) : Bool := (k.w0 &&& 1 == 1)
theorem fo (k : aa) : cr k = Nat.beq k.nat 0 := by
  unfold cr Sx.aa.nat
  have e : ∀ x : UInt64, (x == 0) = decide (x.toNat = 0) := fun x => by
    by_cases h : x = 0
    · subst h; rfl
    · have h' : ¬ x.toNat = 0 := fun h' => h (UInt64.toNat_inj.1 h')
      rw [decide_eq_false h']
      simpa using h
  rw [e, e, e, e]
  generalize k.w0.toNat = a
  generalize k.w1.toNat = b
  generalize k.w2.toNat = c
  generalize k.w3.toNat = d
  by_cases h : a = 0 ∧ b = 0 ∧ c = 0 ∧ d = 0
  · obtain ⟨rfl, rfl, rfl, rfl⟩ := h
    rfl
  · have h1 : ¬ (a + 18446744073709551616 * (b + 18446744073709551616 * (c + 18446744073709551616 * d)) = 0) := fun h1 => h (by omega)
    have h2 : Nat.beq (a + 18446744073709551616 * (b + 18446744073709551616 * (c + 18446744073709551616 * d))) 0 = false := by
      cases hb : Nat.beq (a + 18446744073709551616 * (b + 18446744073709551616 * (c + 18446744073709551616 * d))) 0
      · rfl
      · exact absurd (Nat.eq_of_beq_eq_true hb) h1
    rw [h2]
    by_cases ha : a = 0
    · by_cases hb : b = 0
      · by_cases hc : c = 0
        · have hd : ¬ d = 0 := fun hd => h ⟨ha, hb, hc, hd⟩
          simp [hd]
        · simp [hc]
      · simp [hb]
    · simp [ha]
theorem ahg (k : aa) : ao4 k = Nat.beq (k.nat % 2) 1 := by
  have e : (k.w0 &&& 1).toNat = k.w0.toNat % 2 := by
    rw [UInt64.toNat_and]
    exact Nat.and_two_pow_sub_one_eq_mod k.w0.toNat 1
  have e2 : k.nat % 2 = k.w0.toNat % 2 := by
    unfold Sx.aa.nat
    rw [Rd]
  rw [e2, ← e]
  unfold ao4
  by_cases h : k.w0 &&& 1 = 1
  · rw [h]; rfl
  · have h' : ¬ (k.w0 &&& 1).toNat = 1 := fun h' => h (UInt64.toNat_inj.1 h')
    have h2 : Nat.beq (k.w0 &&& 1).toNat 1 = false := by
      cases hb : Nat.beq (k.w0 &&& 1).toNat 1
      · rfl
      · exact absurd (Nat.eq_of_beq_eq_true hb) h'
    rw [h2]
    simpa using h
theorem M9 (k : aa) : (fm k).nat = k.nat / 2 := by
  have := gn k
  exact gY (by omega)
def ahb (p : Nat) : Nat → aa → aa → aa → aa
  | 0, o, _, _ => o
  | n + 1, o, x, k => cond (cr k) o (ahb p n (cond (ao4 k) (aQ p o x) o) (aQ p x x) (fm k))
def aiQ (p : Nat) : Nat → Nat → Nat → Nat → Nat
  | 0, o, _, _ => o
  | n + 1, o, x, k => cond (Nat.beq k 0) o (aiQ p n (cond (Nat.beq (k % 2) 1) (o * x % p) o) (x * x % p) (k / 2))
theorem acw {p : Nat} (hp : 0 < p ∧ p < 57896044618658097711785492504343953926634992332820282019728792003956564819968) : ∀ (n : Nat) (o x k : aa), ahb p n o x k = ofN (aiQ p n o.nat x.nat k.nat)
  | 0, o, x, k => (qB o).symm
  | n + 1, o, x, k => by
    have e : ∀ a b : aa, (aQ p a b).nat = a.nat * b.nat % p := fun a b => cM hp
    simp only [ahb, aiQ, fo, ahg]
    cases Nat.beq k.nat 0
    · simp only [cond_false]
      rw [acw hp n, e, M9]
      cases Nat.beq (k.nat % 2) 1
      · rfl
      · simp only [cond_true, e]
    · simp only [cond_true]
      exact (qB o).symm
def wA (p : Nat) (a k : aa) : aa := cond (Nat.beq p 0) ⟨0, 0, 0, 0⟩ (ofN (aiQ p 256 1 (a.nat % p) k.nat))
theorem JP {p : Nat} (hp : 0 < p) (a k : aa) : wA p a k = ofN (aiQ p 256 1 (a.nat % p) k.nat) := by
  unfold wA
  cases p with
  | zero => exact absurd hp (Nat.lt_irrefl _)
  | succ p => rfl
end Go.Proofs.Ytkedomfjjahjnaa

namespace Go.Proofs.Ytkedomfjjahjnaa
open Sx Go
set_option maxRecDepth 100000
def pl : aq := ⟨[.val false .int, .val true .elem, .val true .elem], [], true, 0, false⟩
abbrev Yq : Type := ((Int) × (aa) × (aa) × Unit) × (Unit)
def DG : Shape := ⟨40, [(4, .ptr 0 0 0), (5, .ptr 1 0 0), (6, .ptr 2 0 0), (7, .ptr 3 0 0), (9, .ptr 4 0 0)], [(0, .row .u64), (1, .row .u64), (2, .row .u64), (3, .cells [.val false .u64, .val false .u64, .val false .u64, .val false .u64, .val false .int, .val false .u64, .val false .u64, .val false .u64, .val false .u64, .val false .u64, .val false .u64]), (4, .row .u64)], 0, true⟩
abbrev df : Type := ((Unit) × (Unit) × (Unit) × (Unit) × (Unit) × Unit) × ((List (UInt64)) × (List (UInt64)) × (List (UInt64)) × ((UInt64) × (UInt64) × (UInt64) × (UInt64) × (Int) × (UInt64) × (UInt64) × (UInt64) × (UInt64) × (UInt64) × (UInt64) × Unit) × (List (UInt64)) × Unit)
def ve : Shape := ⟨40, [(6, .ptr 0 0 0), (9, .ptr 1 0 0)], [(0, .row .u64), (1, .row .u64)], 0, true⟩
abbrev ml : Type := ((Unit) × (Unit) × Unit) × ((List (UInt64)) × (List (UInt64)) × Unit)
def aed : SE → Option Shape := ku [(0, ve)] none
def amq (c0 : List (UInt64)) (c1 : List (UInt64)) (c2 : List (UInt64)) (c3_0 : UInt64) (c3_1 : UInt64) (c3_2 : UInt64) (c3_3 : UInt64) (c3_4 : Int) (c3_5 : UInt64) (c3_6 : UInt64) (c3_7 : UInt64) (c3_8 : UInt64) (c3_9 : UInt64) (c3_10 : UInt64) (c4 : List (UInt64)) : OT (Sum df aO) :=
  let z0 : Nat := List.length c1
  let z1 : Bool := decide (4 ≤ z0)
  let z2 : UInt64 := List.getD c1 0 0
  let z3 : UInt64 := List.getD c1 1 0
  let z4 : UInt64 := List.getD c1 2 0
  let z5 : UInt64 := List.getD c1 3 0
  let z6 : Nat := List.length c4
  let z7 : Nat := List.length c0
  let z8 : Bool := decide (4 ≤ z7)
  let z9 : aa := { w0 := c3_0, w1 := c3_1, w2 := c3_2, w3 := c3_3 }
  let z10 : aa × Int × UInt64 × UInt64 × aa := (z9, c3_4, c3_5, c3_6, { w0 := c3_7, w1 := c3_8, w2 := c3_9, w3 := c3_10 })
  let z11 : aa := { w0 := List.getD c4 0 0, w1 := List.getD c4 1 0, w2 := List.getD c4 2 0, w3 := List.getD c4 3 0 }
  let z12 : aa := { w0 := List.getD c0 0 0, w1 := List.getD c0 1 0, w2 := List.getD c0 2 0, w3 := List.getD c0 3 0 }
  let z13 : aa × PUnit := (z12, ())
  let z14 : Bool := pg ((z10, z12, z13), ())
  let z15 : Bool := decide ((4 / 1 : Nat) + 0 ≤ z7)
  let z16 : Bool := decide ((4 / 1 : Nat) + 0 ≤ z0)
  let z17 : Nat := aa.nat z9
  let z18 : aa := aQ z17 z12 z12
  let z19 : List UInt64 := List.set (List.set (List.set (List.set c0 0 z18.w0) 1 z18.w1) 2 z18.w2) 3 z18.w3
  let z20 : aa := fm { w0 := z2, w1 := z3, w2 := z4, w3 := z5 }
  let z21 : List UInt64 := List.set (List.set (List.set (List.set c1 0 z20.w0) 1 z20.w1) 2 z20.w2) 3 z20.w3
  let z22 : aa := aQ z17 z11 z12
  (gd [z1] (.br (!(z2 == (0 : UInt64) && (z3 == (0 : UInt64) && (z4 == (0 : UInt64) && (z5 == (0 : UInt64) && true)))))
  (gd [decide (0 < z0)] (.br (z2 &&& (1 : UInt64) == (1 : UInt64))
    (gd [decide (4 ≤ z6), z8, pg ((z10, z11, z13), ()), decide ((4 / 1 : Nat) + 0 ≤ z6), z8, z8, z14, z15, z1, z16] (.ok (.inl (((), ((), ((), ((), ((), ()))))), (z19, (z21, (c2, ((c3_0, (c3_1, (c3_2, (c3_3, (c3_4, (c3_5, (c3_6, (c3_7, (c3_8, (c3_9, (c3_10, ()))))))))))), (List.set (List.set (List.set (List.set c4 0 z22.w0) 1 z22.w1) 2 z22.w2) 3 z22.w3, ())))))))))
    (gd [z8, z8, z14, z15, z1, z16] (.ok (.inl (((), ((), ((), ((), ((), ()))))), (z19, (z21, (c2, ((c3_0, (c3_1, (c3_2, (c3_3, (c3_4, (c3_5, (c3_6, (c3_7, (c3_8, (c3_9, (c3_10, ()))))))))))), (c4, ())))))))))))
  (.ok (.inr ⟨(.exit 0, ve), (((), ((), ())), (c2, (c4, ())))⟩))))
def DI (s : df) : OT (Sum df aO) := amq (s.2.1) (s.2.2.1) (s.2.2.2.1) (s.2.2.2.2.1.1) (s.2.2.2.2.1.2.1) (s.2.2.2.2.1.2.2.1) (s.2.2.2.2.1.2.2.2.1) (s.2.2.2.2.1.2.2.2.2.1) (s.2.2.2.2.1.2.2.2.2.2.1) (s.2.2.2.2.1.2.2.2.2.2.2.1) (s.2.2.2.2.1.2.2.2.2.2.2.2.1) (s.2.2.2.2.1.2.2.2.2.2.2.2.2.1) (s.2.2.2.2.1.2.2.2.2.2.2.2.2.2.1) (s.2.2.2.2.1.2.2.2.2.2.2.2.2.2.2.1) (s.2.2.2.2.2.1)
theorem amn (s : df) (Q : Sum df aO → Prop) : wps te mE ax 1000 (bG (ak Try.f100) 0) (DG.inj s) (cU DG aed (Q : Sum DG.T aO → Prop)) = (DI s).wpR Q := by kernel_rfl
def JM (g0_0 : df → ml) (s : df) : OT aO := (.ok ⟨(.exit 0, ve), g0_0 s⟩)
def DH : ay := ⟨[.val true .elem], [], false⟩
def Vy : SV → Option ay := fun _ => some DH
def aeh (ok0 : df → Bool) (g0_0 : df → ml) (a0 : Int) (a1 : aa) (a2 : aa) : OT pl.Y :=
  let z0 : aa × Int × UInt64 × UInt64 × aa := bQ (Int.toNat a0)
  let z1 := z0.fst
  let z2 : aa := ofN (aa.nat a1 % aa.nat z1)
  let z3 := z0.snd
  let z4 := z3.snd
  let z5 := z4.snd
  let z6 := z5.snd
  let z7 : (PUnit × PUnit × PUnit × PUnit × PUnit × PUnit) × List UInt64 × List UInt64 × List UInt64 × (UInt64 × UInt64 × UInt64 × UInt64 × Int × UInt64 × UInt64 × UInt64 × UInt64 × UInt64 × UInt64 × PUnit) × List UInt64 × PUnit := (((), (), (), (), (), ()), [z2.w0, z2.w1, z2.w2, z2.w3], [a2.w0, a2.w1, a2.w2, a2.w3], [(0 : UInt64), (0 : UInt64), (0 : UInt64), (0 : UInt64)], (z1.w0, z1.w1, z1.w2, z1.w3, z3.fst, z4.fst, z5.fst, z6.w0, z6.w1, z6.w2, z6.w3, ()), [(1 : UInt64), (0 : UInt64), (0 : UInt64), (0 : UInt64)], ())
  let z8 := (g0_0 z7).snd
  let z9 := z8.snd.fst
  let z10 := z8.fst
  let z11 : List UInt64 := lay z10 z9 4 (0 : UInt64)
  (.br (aj a0)
  (gd [gF ((z0, a1, ()), ()), ok0 z7, decide (4 ≤ List.length z9), decide ((4 / 1 : Nat) + 0 ≤ List.length z10), decide (4 ≤ List.length z11)] (.ok ⟨DH, (({ w0 := List.getD z11 0 0, w1 := List.getD z11 1 0, w2 := List.getD z11 2 0, w3 := List.getD z11 3 0 }, ()), ())⟩))
  (.ok ⟨DH, (({ w0 := 0, w1 := 0, w2 := 0, w3 := 0 }, ()), ())⟩))
theorem aov (ok0 : df → Bool) (g0_0 : df → ml) (x : Yq) (Q : pl.Y → Prop) : wpf te mE (bp 0 (dv DG 0 ok0 (JM g0_0)) ax) 1000 Try.f100 (pl.inp.inj x).tm (pl.inp.inj x).hp (fnK pl Vy Q) (fun _ _ => False) = (aeh ok0 g0_0 (x.1.1) (x.1.2.1) (x.1.2.2.1)).wpR Q := by kernel_rfl
theorem aee (ok0 : df → Bool) (g0_0 : df → ml) (h0 : ∀ s : df, ok0 s = true → ∃ m e, au (DI) m s = some e ∧ (JM g0_0 s).run = some e) (pre : Yq → Bool) (F : Yq → OT pl.Y) (hF : ∀ (x : Yq) oy, pre x = true → (F x).run = some oy → (aeh ok0 g0_0 (x.1.1) (x.1.2.1) (x.1.2.2.1)).run = some oy) : ab Try.prog 100 (pl.aK pre F) :=
  aD av kZ v9 (f := 100) (fn := Try.f100) (c := ak Try.f100) (by kernel_rfl) (by kernel_rfl) (by kernel_rfl) (S := pl) (k := 0) (by kernel_rfl) (fun R hR => (aI (c := (ak Try.f100)) (by kernel_rfl) (id := 0) (by kernel_rfl) (bw av kZ v9 (sh := DG) hR (xs := aed) (aH (by kernel_rfl) (by kernel_rfl) hR) aW ae (n := 1000) (T := DI) (fun s Q => amn s Q) (ok := ok0) (f := JM g0_0) h0) ae)) (n := 1000) (sel := Vy) (fun v o h => by cases h; rfl) (pre := pre) (F := F) (T := fun x => aeh ok0 g0_0 (x.1.1) (x.1.2.1) (x.1.2.2.1)) (fun x Q => aov ok0 g0_0 x Q) hF
theorem aef {x0 x1 x2 x3 x5 x6 x7 x8 x9 x10 : UInt64} {x4 : Int} {c2 : List UInt64} (hn : n5 (⟨x0, x1, x2, x3⟩, x4, x5, x6, ⟨x7, x8, x9, x10⟩) = true) : ∀ (n : Nat) (o x k : aa), k.nat < 2 ^ n →
    ∃ m, au DI m (((), (), (), (), (), ()), (lst x, lst k, c2, (x0, x1, x2, x3, x4, x5, x6, x7, x8, x9, x10, ()), lst o, ())) = some ⟨(.exit 0, ve), (((), (), ()), (c2, lst (ahb (aa.mk x0 x1 x2 x3).nat n o x k), ()))⟩ := by
  intro n
  induction n with
  | zero =>
    intro o x k hk
    have hz : (!cr k) = false := by
      rw [fo, show k.nat = 0 by omega]
      rfl
    exact ⟨1, aR ((ai rfl).trans (OT.ap hz))⟩
  | succ n ih =>
    intro o x k hk
    cases hz : cr k
    · have hk2 : (fm k).nat < 2 ^ n := by
        rw [M9]
        rw [Nat.pow_succ] at hk
        omega
      have hz' : (!cr k) = true := by rw [hz]; rfl
      cases ho : ao4 k
      · obtain ⟨m, hm⟩ := ih o (aQ (aa.mk x0 x1 x2 x3).nat x x) (fm k) hk2
        simp only [ahb, hz, ho, cond_false]
        refine ⟨m + 1, aM ?_ hm⟩
        refine (ai rfl).trans ((OT.ao hz').trans ((ai rfl).trans ((OT.ap ho).trans ((ai ?_).trans rfl))))
        simp only [List.all_cons, List.all_nil, Bool.and_true, Bool.and_eq_true]
        exact ⟨rfl, rfl, hn, rfl, rfl, rfl⟩
      · obtain ⟨m, hm⟩ := ih (aQ (aa.mk x0 x1 x2 x3).nat o x) (aQ (aa.mk x0 x1 x2 x3).nat x x) (fm k) hk2
        simp only [ahb, hz, ho, cond_false, cond_true]
        refine ⟨m + 1, aM ?_ hm⟩
        refine (ai rfl).trans ((OT.ao hz').trans ((ai rfl).trans ((OT.ao ho).trans ((ai ?_).trans rfl))))
        simp only [List.all_cons, List.all_nil, Bool.and_true, Bool.and_eq_true]
        exact ⟨rfl, rfl, hn, rfl, rfl, rfl, hn, rfl, rfl, rfl⟩
    · simp only [ahb, hz, cond_true]
      have hz' : (!cr k) = false := by rw [hz]; rfl
      exact ⟨1, aR ((ai rfl).trans (OT.ap hz'))⟩
def apD (s : df) : KQ := (⟨s.2.2.2.2.1.1, s.2.2.2.2.1.2.1, s.2.2.2.2.1.2.2.1, s.2.2.2.2.1.2.2.2.1⟩, s.2.2.2.2.1.2.2.2.2.1, s.2.2.2.2.1.2.2.2.2.2.1, s.2.2.2.2.1.2.2.2.2.2.2.1, ⟨s.2.2.2.2.1.2.2.2.2.2.2.2.1, s.2.2.2.2.1.2.2.2.2.2.2.2.2.1, s.2.2.2.2.1.2.2.2.2.2.2.2.2.2.1, s.2.2.2.2.1.2.2.2.2.2.2.2.2.2.2.1⟩)
def JL (s : df) : Bool := n5 (apD s) && decide (s.2.1.length = 4 ∧ s.2.2.1.length = 4 ∧ s.2.2.2.2.2.1.length = 4)
def aeg (s : df) : ml := (((), (), ()), (s.2.2.2.1, lst (ahb (apD s).1.nat 256 (elemOf s.2.2.2.2.2.1) (elemOf s.2.1) (elemOf s.2.2.1)), ()))
theorem amp : ∀ s : df, JL s = true → ∃ m e, au DI m s = some e ∧ (JM aeg s).run = some e := by
  rintro ⟨⟨⟨⟩, ⟨⟩, ⟨⟩, ⟨⟩, ⟨⟩, ⟨⟩⟩, ⟨c0, c1, c2, ⟨x0, x1, x2, x3, x4, x5, x6, x7, x8, x9, x10, ⟨⟩⟩, c4, ⟨⟩⟩⟩ h
  simp only [JL, Bool.and_eq_true, decide_eq_true_eq, apD] at h
  obtain ⟨hn, h0, h1, h4⟩ := h
  obtain ⟨x, rfl⟩ : ∃ a, c0 = lst a := ⟨elemOf c0, (bc h0).symm⟩
  obtain ⟨k, rfl⟩ : ∃ a, c1 = lst a := ⟨elemOf c1, (bc h1).symm⟩
  obtain ⟨o, rfl⟩ : ∃ a, c4 = lst a := ⟨elemOf c4, (bc h4).symm⟩
  obtain ⟨m, hm⟩ := aef (c2 := c2) hn 256 o x k (gn k)
  exact ⟨m, _, hm, rfl⟩
def Vz (_ : Yq) : Bool := true
def aja (x : Yq) : OT pl.Y := .br (aj x.1.1) (.ok ⟨DH, ((wA (pS x.1.1) x.1.2.1 x.1.2.2.1, ()), ())⟩) (.ok ⟨DH, ((⟨0, 0, 0, 0⟩, ()), ())⟩)
theorem ah0 {p : Nat} (hp : 0 < p ∧ p < 57896044618658097711785492504343953926634992332820282019728792003956564819968) (a k : aa) : elemOf (lay [0, 0, 0, 0] (lst (ahb p 256 ⟨1, 0, 0, 0⟩ (ofN (a.nat % p)) k)) 4 0) = wA p a k := by
  rw [am2 _ _ rfl rfl, YB, acw hp, cM hp, JP hp.1]
  rfl
theorem amo : ab Try.prog 100 (pl.aK Vz aja) := aee JL aeg amp _ _ fun x oy hp ho => by
  rw [← ho]
  clear ho
  obtain ⟨⟨s, a, k, ⟨⟩⟩, ⟨⟩⟩ := x
  cases hs : aj s
  · exact (OT.ap hs).trans (OT.ap (b := aj s) hs).symm
  · have hn := qC hs
    have hfin := ah0 (fN hs) a k
    have hn2 : n5 (bQ s.toNat) = true := hn
    refine (OT.ao hs).trans (Eq.trans ?_ (OT.ao (b := aj s) hs).symm)
    simp only [← hfin]
    refine (ai ?_).trans rfl
    simp only [List.all_cons, List.all_nil, Bool.and_true, Bool.and_eq_true]
    refine ⟨hn, ?_, rfl, rfl, rfl⟩
    show (n5 _ && decide _) = true
    rw [Bool.and_eq_true]
    exact ⟨hn, decide_eq_true ⟨rfl, rfl, rfl⟩⟩
def DF : cI := (pl.aK Vz aja)
theorem Yp : ab Try.prog 100 DF := amo
theorem Yo : aJ DF := aA
def OZ : Env := az 100 DF mE
theorem E4 : aV Try.prog OZ := ag Yp kZ
theorem E5 : aw OZ := ac Yo rW
theorem Zn : bg Try.prog te OZ := aN follows av E4 E5
def pj : aq := ⟨[.val false .int, .val true .elem], [], true, 0, false⟩
abbrev Yi : Type := ((Int) × (aa) × Unit) × (Unit)
def pi : ay := ⟨[.val true .elem, .val false .int], [], false⟩
def Vw : SV → Option ay := fun _ => some pi
def aeb (a0 : Int) (a1 : aa) : OT pj.Y :=
  let z0 : Bool := aj a0
  let z1 : aa × Int × UInt64 × UInt64 × aa := bQ (Int.toNat a0)
  let z2 := z1.fst
  let z3 : aa := ofN (aa.nat a1 % aa.nat z2)
  let z4 : aa := { w0 := 0, w1 := 0, w2 := 0, w3 := 0 }
  (.br (z0)
  (gd [gF ((z1, a1, ()), ())] (.br (z3.w0 == (0 : UInt64) && (z3.w1 == (0 : UInt64) && (z3.w2 == (0 : UInt64) && (z3.w3 == (0 : UInt64) && true))))
    (.ok ⟨pi, ((z4, ((10 : Int), ())), ())⟩)
    (.br (z0)
      (.ok ⟨pi, ((wA (pS a0) a1 (lb z2 { w0 := 2, w1 := 0, w2 := 0, w3 := 0 }).fst, ((0 : Int), ())), ())⟩)
      (.ok ⟨pi, ((z4, ((0 : Int), ())), ())⟩))))
  (.ok ⟨pi, ((z4, ((20 : Int), ())), ())⟩))
theorem aou (x : Yi) (Q : pj.Y → Prop) : wpf te OZ ax 1000 Try.f84 (pj.inp.inj x).tm (pj.inp.inj x).hp (fnK pj Vw Q) (fun _ _ => False) = (aeb (x.1.1) (x.1.2.1)).wpR Q := by kernel_rfl
theorem aea (pre : Yi → Bool) (F : Yi → OT pj.Y) (hF : ∀ (x : Yi) oy, pre x = true → (F x).run = some oy → (aeb (x.1.1) (x.1.2.1)).run = some oy) : ab Try.prog 84 (pj.aK pre F) :=
  aD av E4 Zn (f := 84) (fn := Try.f84) (c := ak Try.f84) (by kernel_rfl) (by kernel_rfl) (by kernel_rfl) (S := pj) (k := 0) (by kernel_rfl) (fun R hR => ae) (n := 1000) (sel := Vw) (fun v o h => by cases h; rfl) (pre := pre) (F := F) (T := fun x => aeb (x.1.1) (x.1.2.1)) (fun x Q => aou x Q) hF
def afG (p : Nat) (a : aa) : aa := ofN (aiQ p 256 1 (a.nat % p) (p - 2))
theorem aiS {s : Int} (h : aj s = true) : 2 ≤ pS s := by
  rcases cu h with rfl | rfl | rfl | rfl <;> decide +kernel
theorem adz {s : Int} (h : aj s = true) (a : aa) : wA (pS s) a (lb (bQ s.toNat).1 ⟨2, 0, 0, 0⟩).1 = afG (pS s) a := by
  rw [JP (fN h).1]
  unfold afG
  have h2 : 2 ≤ (bQ s.toNat).1.nat := aiS h
  rw [mI (show (aa.mk 2 0 0 0).nat ≤ _ from h2)]
  rfl
theorem SX {p : Nat} (hp : 0 < p ∧ p < 57896044618658097711785492504343953926634992332820282019728792003956564819968) (n : Nat) : cr (ofN (n % p)) = Nat.beq (n % p) 0 := by
  rw [fo, cM hp]
def Vx (_ : Yi) : Bool := true
def ai9 (x : Yi) : OT pj.Y := .br (aj x.1.1) (.br (Nat.beq (x.1.2.1.nat % pS x.1.1) 0) (.ok ⟨pi, ((⟨0, 0, 0, 0⟩, ((10 : Int), ())), ())⟩) (.ok ⟨pi, ((afG (pS x.1.1) x.1.2.1, ((0 : Int), ())), ())⟩))
  (.ok ⟨pi, ((⟨0, 0, 0, 0⟩, ((20 : Int), ())), ())⟩)
theorem aml : ab Try.prog 84 (pj.aK Vx ai9) := aea _ _ fun x oy hp ho => by
  rw [← ho]
  clear ho
  obtain ⟨⟨s, a, ⟨⟩⟩, ⟨⟩⟩ := x
  cases hs : aj s
  · exact (OT.ap hs).trans (OT.ap (b := aj s) hs).symm
  · have hz : cr (ofN (a.nat % pS s)) = Nat.beq (a.nat % pS s) 0 := SX (fN hs) _
    refine (OT.ao hs).trans (Eq.trans ((ai ?_).trans ?_) (OT.ao (b := aj s) hs).symm)
    · simp only [List.all_cons, List.all_nil, Bool.and_true]
      exact qC hs
    · cases hb : Nat.beq (a.nat % pS s) 0
      · rw [hb] at hz
        refine (OT.ap hz).trans ((OT.ao hs).trans (Eq.trans ?_ (OT.ap rfl).symm))
        simp only [adz hs]
      · rw [hb] at hz
        exact (OT.ao hz).trans (OT.ao rfl).symm
def Dz : cI := (pj.aK Vx ai9)
theorem Yh : ab Try.prog 84 Dz := aml
theorem Yg : aJ Dz := aA
def OY : Env := az 84 Dz OZ
theorem EZ : aV Try.prog OY := ag Yh E4
theorem E1 : aw OY := ac Yg E5
theorem Zm : bg Try.prog te OY := aN follows av EZ E1
def gN : aq := ⟨[.val false .int], [], true, 0, false⟩
abbrev yo : Type := ((Int) × Unit) × (Unit)
def gM : ay := ⟨[.val true .elem, .val false .bool], [], false⟩
def Hs : SV → Option ay := fun _ => some gM
def J5 (a0 : Int) : OT gN.Y :=
  let z0 : aa := { w0 := 5, w1 := 0, w2 := 0, w3 := 0 }
  let z1 : aa := { w0 := 0, w1 := 0, w2 := 0, w3 := 0 }
  (.br (a0 == (0 : Int))
  (.ok ⟨gM, (({ w0 := 23, w1 := 0, w2 := 0, w3 := 0 }, (true, ())), ())⟩)
  (.br (a0 == (1 : Int))
    (.ok ⟨gM, (({ w0 := 21, w1 := 0, w2 := 0, w3 := 0 }, (true, ())), ())⟩)
    (.br (a0 == (2 : Int))
      (.br (a0 == (2 : Int))
        (.ok ⟨gM, ((z0, (true, ())), ())⟩)
        (.ok ⟨gM, ((z1, (false, ())), ())⟩))
      (.br (a0 == (3 : Int))
        (.ok ⟨gM, ((z0, (true, ())), ())⟩)
        (.ok ⟨gM, ((z1, (false, ())), ())⟩)))))
theorem aik (x : yo) (Q : gN.Y → Prop) : wpf te OY ax 1000 Try.f57 (gN.inp.inj x).tm (gN.inp.inj x).hp (fnK gN Hs Q) (fun _ _ => False) = (J5 (x.1.1)).wpR Q := by kernel_rfl
theorem RZ (pre : yo → Bool) (F : yo → OT gN.Y) (hF : ∀ (x : yo) oy, pre x = true → (F x).run = some oy → (J5 (x.1.1)).run = some oy) : ab Try.prog 57 (gN.aK pre F) :=
  aD av EZ Zm (f := 57) (fn := Try.f57) (c := ak Try.f57) (by kernel_rfl) (by kernel_rfl) (by kernel_rfl) (S := gN) (k := 0) (by kernel_rfl) (fun R hR => ae) (n := 1000) (sel := Hs) (fun v o h => by cases h; rfl) (pre := pre) (F := F) (T := fun x => J5 (x.1.1)) (fun x Q => aik x Q) hF
def bOf : Nat → aa
  | 0 => ⟨23, 0, 0, 0⟩
  | 1 => ⟨21, 0, 0, 0⟩
  | _ => ⟨5, 0, 0, 0⟩
abbrev bS (s : Int) : aa := bOf s.toNat
def Ht (_ : yo) : Bool := true
def V0 (x : yo) : OT gN.Y := .br (aj x.1.1) (.ok ⟨gM, ((bS x.1.1, (true, ())), ())⟩) (.ok ⟨gM, ((⟨0, 0, 0, 0⟩, (false, ())), ())⟩)
theorem ae0 : ab Try.prog 57 (gN.aK Ht V0) := RZ _ _ fun x oy _ ho => by
  rw [← ho]
  clear ho
  obtain ⟨⟨s, ⟨⟩⟩, ⟨⟩⟩ := x
  cases hs : aj s
  · obtain ⟨h0, h1, h2, h3⟩ := pZ hs
    exact (OT.ap h0).trans ((OT.ap h1).trans ((OT.ap h2).trans ((OT.ap h3).trans (OT.ap (b := aj s) hs).symm)))
  · rcases cu hs with h | h | h | h
    all_goals
      have h : s = _ := h
      subst h
      rfl
def s5 : cI := (gN.aK Ht V0)
theorem N3 : ab Try.prog 57 s5 := ae0
theorem N0 : aJ s5 := aA
def wk : Env := az 57 s5 OY
theorem tD : aV Try.prog wk := ag N3 EZ
theorem wj : aw wk := ac N0 E1
theorem O8 : bg Try.prog te wk := aN follows av tD wj
def pC : aq := ⟨[], [], true, 0, false⟩
abbrev YT : Type := (Unit) × (Unit)
def RU : ay := ⟨[.val true (.prod .elem (.prod .elem .bool))], [], false⟩
def VX : SV → Option ay := fun _ => some RU
def aeU : OT pC.Y :=
  let z0 : aa := { w0 := 0, w1 := 0, w2 := 0, w3 := 0 }
  (.ok ⟨RU, (((z0, z0, true), ()), ())⟩)
theorem aoJ (x : YT) (Q : pC.Y → Prop) : wpf te wk ax 1000 Try.f27 (pC.inp.inj x).tm (pC.inp.inj x).hp (fnK pC VX Q) (fun _ _ => False) = (aeU).wpR Q := by kernel_rfl
theorem aeT (pre : YT → Bool) (F : YT → OT pC.Y) (hF : ∀ (x : YT) oy, pre x = true → (F x).run = some oy → (aeU).run = some oy) : ab Try.prog 27 (pC.aK pre F) :=
  aD av tD O8 (f := 27) (fn := Try.f27) (c := ak Try.f27) (by kernel_rfl) (by kernel_rfl) (by kernel_rfl) (S := pC) (k := 0) (by kernel_rfl) (fun R hR => ae) (n := 1000) (sel := VX) (fun v o h => by cases h; rfl) (pre := pre) (F := F) (T := fun x => aeU) (fun x Q => aoJ x Q) hF
def aC : aa × (aa × Bool) := (⟨0, 0, 0, 0⟩, ⟨0, 0, 0, 0⟩, true)
def VY (_ : YT) : Bool := true
def ajg (_ : YT) : OT pC.Y := .ok ⟨RU, ((aC, ()), ())⟩
theorem amL : ab Try.prog 27 (pC.aK VY ajg) := aeT _ _ fun x oy _ ho => ho
def DZ : cI := (pC.aK VY ajg)
theorem YS : ab Try.prog 27 DZ := amL
theorem YR : aJ DZ := aA
def O7 : Env := az 27 DZ wk
theorem Fi : aV Try.prog O7 := ag YS tD
theorem Fj : aw O7 := ac YR wj
theorem Zs : bg Try.prog te O7 := aN follows av Fi Fj
def km : aq := ⟨[.val false .int, .val true .elem, .val true .elem], [], true, 0, false⟩
abbrev Hr : Type := ((Int) × (aa) × (aa) × Unit) × (Unit)
def im : ay := ⟨[.val true .elem], [], false⟩
def NZ : SV → Option ay := fun _ => some im
def RY (a0 : Int) (a1 : aa) (a2 : aa) : OT km.Y :=
  let z0 : Bool := aj a0
  let z1 : Nat := pS a0
  let z2 : aa := { w0 := 0, w1 := 0, w2 := 0, w3 := 0 }
  let z3 : aa := n0 z1 z2 a2
  (.br (z0)
  (.br (z0)
    (.br (z0)
      (.ok ⟨im, ((n0 z1 (aQ z1 (aQ z1 a1 a1) a1) a2, ()), ())⟩)
      (.ok ⟨im, ((z2, ()), ())⟩))
    (.br (z0)
      (.ok ⟨im, ((z3, ()), ())⟩)
      (.ok ⟨im, ((z2, ()), ())⟩)))
  (.br (z0)
    (.br (z0)
      (.ok ⟨im, ((n0 z1 (aQ z1 z2 a1) a2, ()), ())⟩)
      (.ok ⟨im, ((z2, ()), ())⟩))
    (.br (z0)
      (.ok ⟨im, ((z3, ()), ())⟩)
      (.ok ⟨im, ((z2, ()), ())⟩))))
theorem amM (x : Hr) (Q : km.Y → Prop) : wpf te O7 ax 1000 Try.f61 (km.inp.inj x).tm (km.inp.inj x).hp (fnK km NZ Q) (fun _ _ => False) = (RY (x.1.1) (x.1.2.1) (x.1.2.2.1)).wpR Q := by kernel_rfl
theorem YW (pre : Hr → Bool) (F : Hr → OT km.Y) (hF : ∀ (x : Hr) oy, pre x = true → (F x).run = some oy → (RY (x.1.1) (x.1.2.1) (x.1.2.2.1)).run = some oy) : ab Try.prog 61 (km.aK pre F) :=
  aD av Fi Zs (f := 61) (fn := Try.f61) (c := ak Try.f61) (by kernel_rfl) (by kernel_rfl) (by kernel_rfl) (S := km) (k := 0) (by kernel_rfl) (fun R hR => ae) (n := 1000) (sel := NZ) (fun v o h => by cases h; rfl) (pre := pre) (F := F) (T := fun x => RY (x.1.1) (x.1.2.1) (x.1.2.2.1)) (fun x Q => amM x Q) hF
def AD (p : Nat) (x b : aa) : aa := n0 p (aQ p (aQ p x x) x) b
def D2 (x : Hr) : Bool := aj x.1.1
def aeZ (x : Hr) : OT km.Y := .ok ⟨im, ((AD (pS x.1.1) x.1.2.1 x.1.2.2.1, ()), ())⟩
theorem aij : ab Try.prog 61 (km.aK D2 aeZ) := YW _ _ fun x oy hp ho => by
  rw [← ho]
  clear ho
  obtain ⟨⟨s, a, b, ⟨⟩⟩, ⟨⟩⟩ := x
  have hs : aj s = true := hp
  exact (OT.ao hs).trans ((OT.ao hs).trans ((OT.ao hs).trans rfl))
def yn : cI := (km.aK D2 aeZ)
theorem RX : ab Try.prog 61 yn := aij
theorem RW : aJ yn := aA
def Fk : Env := az 61 yn O7
theorem zc : aV Try.prog Fk := ag RX Fi
theorem Ao : aw Fk := ac RW Fj
theorem SS : bg Try.prog te Fk := aN follows av zc Ao
def AE : aq := ⟨[.val false .int, .val true (.prod .elem (.prod .elem .bool))], [], true, 0, false⟩
abbrev anf : Type := ((Int) × ((aa × (aa × Bool))) × Unit) × (Unit)
def rN : ay := ⟨[.val false .bool], [], false⟩
def aeI : SV → Option ay := fun _ => some rN
def amH (a0 : Int) (a1 : (aa × (aa × Bool))) : OT AE.Y :=
  let z0 : Bool := aj a0
  let z1 : Nat := aa.nat (bQ (Int.toNat a0)).fst
  let z2 : aa := bS a0
  let z3 : Bool := D2 ((a0, a1.fst, z2, ()), ())
  let z4 : Nat := pS a0
  let z5 : aa := aQ z4 a1.snd.fst a1.snd.fst
  let z6 : aa := AD z4 a1.fst z2
  let z7 := z6.w0
  let z8 := z6.w1
  let z9 := z6.w2
  let z10 := z6.w3
  (.br (z0)
  (.br (a1.snd.snd)
    (.ok ⟨rN, ((a1.fst.w0 == (0 : UInt64) && (a1.fst.w1 == (0 : UInt64) && (a1.fst.w2 == (0 : UInt64) && (a1.fst.w3 == (0 : UInt64) && true))) && (a1.snd.fst.w0 == (0 : UInt64) && (a1.snd.fst.w1 == (0 : UInt64) && (a1.snd.fst.w2 == (0 : UInt64) && (a1.snd.fst.w3 == (0 : UInt64) && true))) && (a1.snd.snd == true && true)), ()), ())⟩)
    (.br (z0)
      (.br (Nat.blt (aa.nat a1.fst) z1)
        (.br (Nat.blt (aa.nat a1.snd.fst) z1)
          (.br (z0)
            (gd [z3] (.ok ⟨rN, ((z5.w0 == z7 && (z5.w1 == z8 && (z5.w2 == z9 && (z5.w3 == z10 && true))), ()), ())⟩))
            (gd [z3] (.ok ⟨rN, (((0 : UInt64) == z7 && ((0 : UInt64) == z8 && ((0 : UInt64) == z9 && ((0 : UInt64) == z10 && true))), ()), ())⟩)))
          (.ok ⟨rN, ((false, ()), ())⟩))
        (.ok ⟨rN, ((false, ()), ())⟩))
      (.ok ⟨rN, ((false, ()), ())⟩)))
  (.ok ⟨rN, ((false, ()), ())⟩))
theorem apB (x : anf) (Q : AE.Y → Prop) : wpf te Fk ax 1000 Try.f21 (AE.inp.inj x).tm (AE.inp.inj x).hp (fnK AE aeI Q) (fun _ _ => False) = (amH (x.1.1) (x.1.2.1)).wpR Q := by kernel_rfl
theorem aib (pre : anf → Bool) (F : anf → OT AE.Y) (hF : ∀ (x : anf) oy, pre x = true → (F x).run = some oy → (amH (x.1.1) (x.1.2.1)).run = some oy) : ab Try.prog 21 (AE.aK pre F) :=
  aD av zc SS (f := 21) (fn := Try.f21) (c := ak Try.f21) (by kernel_rfl) (by kernel_rfl) (by kernel_rfl) (S := AE) (k := 0) (by kernel_rfl) (fun R hR => ae) (n := 1000) (sel := aeI) (fun v o h => by cases h; rfl) (pre := pre) (F := F) (T := fun x => amH (x.1.1) (x.1.2.1)) (fun x Q => apB x Q) hF
def eqE (a b : aa) : Bool := (a.w0 == b.w0 && (a.w1 == b.w1 && (a.w2 == b.w2 && (a.w3 == b.w3 && true))))
theorem li {a b : aa} : eqE a b = true ↔ a = b := by
  obtain ⟨a0, a1, a2, a3⟩ := a
  obtain ⟨b0, b1, b2, b3⟩ := b
  simp [eqE]
theorem JR (a : aa) : eqE a a = true := li.2 rfl
theorem amB (a b : aa) : eqE a b = Nat.beq a.nat b.nat := by
  cases h : eqE a b
  · cases hb : Nat.beq a.nat b.nat
    · rfl
    · rw [li.2 (jV (Nat.eq_of_beq_eq_true hb))] at h
      cases h
  · rw [li.1 h]
    exact (Nat.beq_refl _).symm
abbrev Pt : Type := aa × (aa × Bool)
def onB (c : Int) (P : Pt) : Bool := cond (aj c) (cond P.2.2 (cr P.1 && (cr P.2.1 && (P.2.2 == true && true)))
  (cond (Nat.blt P.1.nat (pS c)) (cond (Nat.blt P.2.1.nat (pS c)) (eqE (aQ (pS c) P.2.1 P.2.1) (AD (pS c) P.1 (bS c))) false) false)) false
def aeJ (_ : anf) : Bool := true
def aoG (x : anf) : OT AE.Y := .ok ⟨rN, ((onB x.1.1 x.1.2.1, ()), ())⟩
theorem aoF : ab Try.prog 21 (AE.aK aeJ aoG) := aib _ _ fun x oy _ ho => by
  rw [← ho]
  clear ho
  obtain ⟨⟨c, ⟨X, Y, i⟩, ⟨⟩⟩, ⟨⟩⟩ := x
  show _ = (OT.ok ⟨rN, ((onB c (X, Y, i), ()), ())⟩ : OT AE.Y).run
  unfold onB
  cases hs : aj c
  · exact OT.ap hs
  · refine (OT.ao hs).trans ?_
    cases i
    · refine (OT.ap rfl).trans ((OT.ao hs).trans ?_)
      cases hx : Nat.blt X.nat (pS c)
      · exact OT.ap hx
      · refine (OT.ao hx).trans ?_
        cases hy : Nat.blt Y.nat (pS c)
        · exact OT.ap hy
        · refine (OT.ao hy).trans ((OT.ao hs).trans ((ai ?_).trans rfl))
          simp only [List.all_cons, List.all_nil, Bool.and_true]
          exact hs
    · exact OT.ao rfl
def JX : cI := (AE.aK aeJ aoG)
theorem aeK : ab Try.prog 21 JX := aoF
theorem aeH : aJ JX := aA
def afE : Env := az 21 JX Fk
theorem KG : aV Try.prog afE := ag aeK zc
theorem HR : aw afE := ac aeH Ao
theorem afD : bg Try.prog te afE := aN follows av KG HR
def nW : aq := ⟨[.val false .int, .val true (.prod .elem (.prod .elem .bool))], [], true, 0, false⟩
abbrev YK : Type := ((Int) × ((aa × (aa × Bool))) × Unit) × (Unit)
def sZ : ay := ⟨[.val true (.prod .elem (.prod .elem .bool))], [], false⟩
def VQ : SV → Option ay := fun _ => some sZ
def aeM (a0 : Int) (a1 : (aa × (aa × Bool))) : OT nW.Y :=
  let z0 : aa := { w0 := 0, w1 := 0, w2 := 0, w3 := 0 }
  let z1 : aa × aa × Bool := (z0, z0, true)
  (.br (!onB a0 a1)
  (.ok ⟨sZ, ((z1, ()), ())⟩)
  (.br (a1.snd.snd)
    (.ok ⟨sZ, ((z1, ()), ())⟩)
    (.br (aj a0)
      (.ok ⟨sZ, (((a1.fst, Ck (pS a0) a1.snd.fst, a1.snd.snd), ()), ())⟩)
      (.ok ⟨sZ, (((a1.fst, z0, a1.snd.snd), ()), ())⟩))))
theorem aoH (x : YK) (Q : nW.Y → Prop) : wpf te afE ax 1000 Try.f23 (nW.inp.inj x).tm (nW.inp.inj x).hp (fnK nW VQ Q) (fun _ _ => False) = (aeM (x.1.1) (x.1.2.1)).wpR Q := by kernel_rfl
theorem aeL (pre : YK → Bool) (F : YK → OT nW.Y) (hF : ∀ (x : YK) oy, pre x = true → (F x).run = some oy → (aeM (x.1.1) (x.1.2.1)).run = some oy) : ab Try.prog 23 (nW.aK pre F) :=
  aD av KG afD (f := 23) (fn := Try.f23) (c := ak Try.f23) (by kernel_rfl) (by kernel_rfl) (by kernel_rfl) (S := nW) (k := 0) (by kernel_rfl) (fun R hR => ae) (n := 1000) (sel := VQ) (fun v o h => by cases h; rfl) (pre := pre) (F := F) (T := fun x => aeM (x.1.1) (x.1.2.1)) (fun x Q => aoH x Q) hF
def alH (c : Int) (P : Pt) : Pt := cond (onB c P) (cond P.2.2 aC (P.1, Ck (pS c) P.2.1, P.2.2)) aC
theorem mZ {c : Int} {P : Pt} (h : onB c P = true) : aj c = true := by
  unfold onB at h
  cases hs : aj c
  · rw [hs] at h; cases h
  · rfl
def VR (_ : YK) : Bool := true
def aje (x : YK) : OT nW.Y := .ok ⟨sZ, ((alH x.1.1 x.1.2.1, ()), ())⟩
theorem amI : ab Try.prog 23 (nW.aK VR aje) := aeL _ _ fun x oy _ ho => by
  rw [← ho]
  clear ho
  obtain ⟨⟨c, ⟨X, Y, i⟩, ⟨⟩⟩, ⟨⟩⟩ := x
  show _ = (OT.ok ⟨sZ, ((alH c (X, Y, i), ()), ())⟩ : OT nW.Y).run
  unfold alH
  cases ho : onB c (X, Y, i)
  · exact OT.ao (b := !onB c (X, Y, i)) (by rw [ho]; rfl)
  · refine (OT.ap (b := !onB c (X, Y, i)) (by rw [ho]; rfl)).trans ?_
    cases i
    · exact (OT.ap rfl).trans (OT.ao (mZ ho))
    · exact OT.ao rfl
def DT : cI := (nW.aK VR aje)
theorem YJ : ab Try.prog 23 DT := amI
theorem YI : aJ DT := aA
def O4 : Env := az 23 DT afE
theorem Fc : aV Try.prog O4 := ag YJ KG
theorem Fe : aw O4 := ac YI HR
theorem Zq : bg Try.prog te O4 := aN follows av Fc Fe
def gL : aq := ⟨[.val true (.prod .elem (.prod .elem .elem))], [], true, 0, false⟩
abbrev ym : Type := (((aa × (aa × aa))) × Unit) × (Unit)
def DY : ay := ⟨[.val false .bool], [], false⟩
def Ho : SV → Option ay := fun _ => some DY
def J1 (a0 : (aa × (aa × aa))) : OT gL.Y :=
  (.ok ⟨DY, ((a0.snd.snd.w0 == (0 : UInt64) && (a0.snd.snd.w1 == (0 : UInt64) && (a0.snd.snd.w2 == (0 : UInt64) && (a0.snd.snd.w3 == (0 : UInt64) && true))), ()), ())⟩)
theorem aii (x : ym) (Q : gL.Y → Prop) : wpf te O4 ax 1000 Try.f80 (gL.inp.inj x).tm (gL.inp.inj x).hp (fnK gL Ho Q) (fun _ _ => False) = (J1 (x.1.1)).wpR Q := by kernel_rfl
theorem RT (pre : ym → Bool) (F : ym → OT gL.Y) (hF : ∀ (x : ym) oy, pre x = true → (F x).run = some oy → (J1 (x.1.1)).run = some oy) : ab Try.prog 80 (gL.aK pre F) :=
  aD av Fc Zq (f := 80) (fn := Try.f80) (c := ak Try.f80) (by kernel_rfl) (by kernel_rfl) (by kernel_rfl) (S := gL) (k := 0) (by kernel_rfl) (fun R hR => ae) (n := 1000) (sel := Ho) (fun v o h => by cases h; rfl) (pre := pre) (F := F) (T := fun x => J1 (x.1.1)) (fun x Q => aii x Q) hF
abbrev Bg : Type := aa × (aa × aa)
def Hq (_ : ym) : Bool := true
def VW (x : ym) : OT gL.Y := .ok ⟨DY, ((cr x.1.1.2.2, ()), ())⟩
theorem aeS : ab Try.prog 80 (gL.aK Hq VW) := RT _ _ fun x oy hp ho => by
  rw [← ho]
  rfl
def s4 : cI := (gL.aK Hq VW)
theorem NW : ab Try.prog 80 s4 := aeS
theorem NV : aJ s4 := aA
def wi : Env := az 80 s4 O4
theorem tC : aV Try.prog wi := ag NW Fc
theorem wh : aw wi := ac NV Fe
theorem O6 : bg Try.prog te wi := aN follows av tC wh
def gI : aq := ⟨[.val true (.prod .elem (.prod .elem .bool))], [], true, 0, false⟩
abbrev yj : Type := (((aa × (aa × Bool))) × Unit) × (Unit)
def vi : ay := ⟨[.val true (.prod .elem (.prod .elem .elem))], [], false⟩
def Hh : SV → Option ay := fun _ => some vi
def JT (a0 : (aa × (aa × Bool))) : OT gI.Y :=
  let z0 : aa := { w0 := 0, w1 := 0, w2 := 0, w3 := 0 }
  (.br (a0.snd.snd)
  (.ok ⟨vi, (((z0, z0, z0), ()), ())⟩)
  (.ok ⟨vi, (((a0.fst, a0.snd.fst, { w0 := 1, w1 := 0, w2 := 0, w3 := 0 }), ()), ())⟩))
theorem ah9 (x : yj) (Q : gI.Y → Prop) : wpf te wi ax 1000 Try.f51 (gI.inp.inj x).tm (gI.inp.inj x).hp (fnK gI Hh Q) (fun _ _ => False) = (JT (x.1.1)).wpR Q := by kernel_rfl
theorem RO (pre : yj → Bool) (F : yj → OT gI.Y) (hF : ∀ (x : yj) oy, pre x = true → (F x).run = some oy → (JT (x.1.1)).run = some oy) : ab Try.prog 51 (gI.aK pre F) :=
  aD av tC O6 (f := 51) (fn := Try.f51) (c := ak Try.f51) (by kernel_rfl) (by kernel_rfl) (by kernel_rfl) (S := gI) (k := 0) (by kernel_rfl) (fun R hR => ae) (n := 1000) (sel := Hh) (fun v o h => by cases h; rfl) (pre := pre) (F := F) (T := fun x => JT (x.1.1)) (fun x Q => ah9 x Q) hF
def eK (P : Pt) : Bg := cond P.2.2 (⟨0, 0, 0, 0⟩, ⟨0, 0, 0, 0⟩, ⟨0, 0, 0, 0⟩) (P.1, P.2.1, ⟨1, 0, 0, 0⟩)
def Hi (_ : yj) : Bool := true
def VN (x : yj) : OT gI.Y := .ok ⟨vi, ((eK x.1.1, ()), ())⟩
theorem aeC : ab Try.prog 51 (gI.aK Hi VN) := RO _ _ fun x oy hp ho => by
  rw [← ho]
  clear ho
  obtain ⟨⟨⟨X, Y, i⟩, ⟨⟩⟩, ⟨⟩⟩ := x
  cases i <;> rfl
def sX : cI := (gI.aK Hi VN)
theorem NM : ab Try.prog 51 sX := aeC
theorem NL : aJ sX := aA
def wc : Env := az 51 sX wi
theorem tA : aV Try.prog wc := ag NM tC
theorem wb : aw wc := ac NL wh
theorem O1 : bg Try.prog te wc := aN follows av tA wb
def pA : aq := ⟨[.val false .int, .val true .elem, .val true .elem], [], true, 0, false⟩
abbrev YP : Type := ((Int) × (aa) × (aa) × Unit) × (Unit)
def J0 : ay := ⟨[.val true .elem], [], false⟩
def VU : SV → Option ay := fun _ => some J0
def aeQ (a0 : Int) (a1 : aa) (a2 : aa) : OT pA.Y :=
  (.br (aj a0)
  (.ok ⟨J0, ((aQ (pS a0) a1 a2, ()), ())⟩)
  (.ok ⟨J0, (({ w0 := 0, w1 := 0, w2 := 0, w3 := 0 }, ()), ())⟩))
theorem aoI (x : YP) (Q : pA.Y → Prop) : wpf te wc ax 1000 Try.f81 (pA.inp.inj x).tm (pA.inp.inj x).hp (fnK pA VU Q) (fun _ _ => False) = (aeQ (x.1.1) (x.1.2.1) (x.1.2.2.1)).wpR Q := by kernel_rfl
theorem aeP (pre : YP → Bool) (F : YP → OT pA.Y) (hF : ∀ (x : YP) oy, pre x = true → (F x).run = some oy → (aeQ (x.1.1) (x.1.2.1) (x.1.2.2.1)).run = some oy) : ab Try.prog 81 (pA.aK pre F) :=
  aD av tA O1 (f := 81) (fn := Try.f81) (c := ak Try.f81) (by kernel_rfl) (by kernel_rfl) (by kernel_rfl) (S := pA) (k := 0) (by kernel_rfl) (fun R hR => ae) (n := 1000) (sel := VU) (fun v o h => by cases h; rfl) (pre := pre) (F := F) (T := fun x => aeQ (x.1.1) (x.1.2.1) (x.1.2.2.1)) (fun x Q => aoI x Q) hF
def bt (x : YP) : Bool := aj x.1.1
def ajf (x : YP) : OT pA.Y := .ok ⟨J0, ((aQ (pS x.1.1) x.1.2.1 x.1.2.2.1, ()), ())⟩
theorem amK : ab Try.prog 81 (pA.aK bt ajf) := aeP _ _ fun x oy hp ho => by
  rw [← ho]
  clear ho
  obtain ⟨⟨s, a, b, ⟨⟩⟩, ⟨⟩⟩ := x
  have hs : aj s = true := hp
  exact (OT.ao hs).trans rfl
def DX : cI := (pA.aK bt ajf)
theorem YO : ab Try.prog 81 DX := amK
theorem YN : aJ DX := aA
def O5 : Env := az 81 DX wc
theorem Fg : aV Try.prog O5 := ag YO tA
theorem Fh : aw O5 := ac YN wb
theorem Zr : bg Try.prog te O5 := aN follows av Fg Fh
def pv : aq := ⟨[.val false .int, .val true .elem, .val true .elem], [], true, 0, false⟩
abbrev YF : Type := ((Int) × (aa) × (aa) × Unit) × (Unit)
def JV : ay := ⟨[.val true .elem], [], false⟩
def VP : SV → Option ay := fun _ => some JV
def aeF (a0 : Int) (a1 : aa) (a2 : aa) : OT pv.Y :=
  (.br (aj a0)
  (.ok ⟨JV, ((eZ (pS a0) a1 a2, ()), ())⟩)
  (.ok ⟨JV, (({ w0 := 0, w1 := 0, w2 := 0, w3 := 0 }, ()), ())⟩))
theorem aoE (x : YF) (Q : pv.Y → Prop) : wpf te O5 ax 1000 Try.f83 (pv.inp.inj x).tm (pv.inp.inj x).hp (fnK pv VP Q) (fun _ _ => False) = (aeF (x.1.1) (x.1.2.1) (x.1.2.2.1)).wpR Q := by kernel_rfl
theorem aeE (pre : YF → Bool) (F : YF → OT pv.Y) (hF : ∀ (x : YF) oy, pre x = true → (F x).run = some oy → (aeF (x.1.1) (x.1.2.1) (x.1.2.2.1)).run = some oy) : ab Try.prog 83 (pv.aK pre F) :=
  aD av Fg Zr (f := 83) (fn := Try.f83) (c := ak Try.f83) (by kernel_rfl) (by kernel_rfl) (by kernel_rfl) (S := pv) (k := 0) (by kernel_rfl) (fun R hR => ae) (n := 1000) (sel := VP) (fun v o h => by cases h; rfl) (pre := pre) (F := F) (T := fun x => aeF (x.1.1) (x.1.2.1) (x.1.2.2.1)) (fun x Q => aoE x Q) hF
def gK (x : YF) : Bool := aj x.1.1
def ajd (x : YF) : OT pv.Y := .ok ⟨JV, ((eZ (pS x.1.1) x.1.2.1 x.1.2.2.1, ()), ())⟩
theorem amG : ab Try.prog 83 (pv.aK gK ajd) := aeE _ _ fun x oy hp ho => by
  rw [← ho]
  clear ho
  obtain ⟨⟨s, a, b, ⟨⟩⟩, ⟨⟩⟩ := x
  have hs : aj s = true := hp
  exact (OT.ao hs).trans rfl
def DS : cI := (pv.aK gK ajd)
theorem YE : ab Try.prog 83 DS := amG
theorem YD : aJ DS := aA
def O3 : Env := az 83 DS O5
theorem Fa : aV Try.prog O3 := ag YE Fg
theorem Fb : aw O3 := ac YD Fh
theorem Zp : bg Try.prog te O3 := aN follows av Fa Fb
def gJ : aq := ⟨[.val false .int, .val true .elem, .val false .u64], [], true, 0, false⟩
abbrev yk : Type := ((Int) × (aa) × (UInt64) × Unit) × (Unit)
def DR : ay := ⟨[.val true .elem], [], false⟩
def Hj : SV → Option ay := fun _ => some DR
def JU (a0 : Int) (a1 : aa) (a2 : UInt64) : OT gJ.Y :=
  let z0 : aa := { w0 := a2, w1 := 0, w2 := 0, w3 := 0 }
  (gd [bt ((a0, a1, z0, ()), ())] (.ok ⟨DR, ((aQ (pS a0) a1 z0, ()), ())⟩))
theorem aia (x : yk) (Q : gJ.Y → Prop) : wpf te O3 ax 1000 Try.f82 (gJ.inp.inj x).tm (gJ.inp.inj x).hp (fnK gJ Hj Q) (fun _ _ => False) = (JU (x.1.1) (x.1.2.1) (x.1.2.2.1)).wpR Q := by kernel_rfl
theorem RP (pre : yk → Bool) (F : yk → OT gJ.Y) (hF : ∀ (x : yk) oy, pre x = true → (F x).run = some oy → (JU (x.1.1) (x.1.2.1) (x.1.2.2.1)).run = some oy) : ab Try.prog 82 (gJ.aK pre F) :=
  aD av Fa Zp (f := 82) (fn := Try.f82) (c := ak Try.f82) (by kernel_rfl) (by kernel_rfl) (by kernel_rfl) (S := gJ) (k := 0) (by kernel_rfl) (fun R hR => ae) (n := 1000) (sel := Hj) (fun v o h => by cases h; rfl) (pre := pre) (F := F) (T := fun x => JU (x.1.1) (x.1.2.1) (x.1.2.2.1)) (fun x Q => aia x Q) hF
def jw (p : Nat) (a : aa) (n : UInt64) : aa := aQ p a ⟨n, 0, 0, 0⟩
def fT (x : yk) : Bool := aj x.1.1
def VO (x : yk) : OT gJ.Y := .ok ⟨DR, ((jw (pS x.1.1) x.1.2.1 x.1.2.2.1, ()), ())⟩
theorem aeD : ab Try.prog 82 (gJ.aK fT VO) := RP _ _ fun x oy hp ho => by
  rw [← ho]
  clear ho
  obtain ⟨⟨s, a, b, ⟨⟩⟩, ⟨⟩⟩ := x
  have hs : aj s = true := hp
  refine (ai ?_).trans rfl
  simp only [List.all_cons, List.all_nil, Bool.and_true]
  exact hs
def sY : cI := (gJ.aK fT VO)
theorem NO : ab Try.prog 82 sY := aeD
theorem NN : aJ sY := aA
def wg : Env := az 82 sY O3
theorem tB : aV Try.prog wg := ag NO Fa
theorem we : aw wg := ac NN Fb
theorem O2 : bg Try.prog te wg := aN follows av tB we
def eg : aq := ⟨[.val false .int, .val true (.prod .elem (.prod .elem .elem))], [], true, 0, false⟩
abbrev qY : Type := ((Int) × ((aa × (aa × aa))) × Unit) × (Unit)
def ic : ay := ⟨[.val true (.prod .elem (.prod .elem .bool))], [], false⟩
def DU : SV → Option ay := fun _ => some ic
def DV (a0 : Int) (a1 : (aa × (aa × aa))) : OT eg.Y :=
  let z0 : aa := { w0 := 0, w1 := 0, w2 := 0, w3 := 0 }
  let z1 : Nat := pS a0
  let z2 : aa × PUnit := (z0, ())
  let z3 : Bool := bt ((a0, z0, z2), ())
  let z4 : aa := aQ z1 z0 z0
  let z5 : Bool := bt ((a0, a1.fst, z4, ()), ())
  let z6 : Bool := bt ((a0, z4, z2), ())
  let z7 : aa := aQ z1 z4 z0
  let z8 : Bool := bt ((a0, a1.snd.fst, z7, ()), ())
  let z9 : aa × aa × Bool := (aQ z1 a1.fst z4, aQ z1 a1.snd.fst z7, false)
  let z10 : aa := afG z1 a1.snd.snd
  let z11 : aa × PUnit := (z10, ())
  let z12 : aa := aQ z1 z10 z10
  let z13 : aa := aQ z1 z12 z10
  (.br (cr a1.snd.snd)
  (.ok ⟨ic, (((z0, z0, true), ()), ())⟩)
  (.br (aj a0)
    (.br (Nat.beq (aa.nat a1.snd.snd % z1) 0)
      (gd [z3, z5, z6, z8] (.ok ⟨ic, ((z9, ()), ())⟩))
      (gd [bt ((a0, z10, z11), ()), bt ((a0, a1.fst, z12, ()), ()), bt ((a0, z12, z11), ()), bt ((a0, a1.snd.fst, z13, ()), ())] (.ok ⟨ic, (((aQ z1 a1.fst z12, aQ z1 a1.snd.fst z13, false), ()), ())⟩)))
    (gd [z3, z5, z6, z8] (.ok ⟨ic, ((z9, ()), ())⟩))))
theorem aeN (x : qY) (Q : eg.Y → Prop) : wpf te wg ax 1000 Try.f52 (eg.inp.inj x).tm (eg.inp.inj x).hp (fnK eg DU Q) (fun _ _ => False) = (DV (x.1.1) (x.1.2.1)).wpR Q := by kernel_rfl
theorem NR (pre : qY → Bool) (F : qY → OT eg.Y) (hF : ∀ (x : qY) oy, pre x = true → (F x).run = some oy → (DV (x.1.1) (x.1.2.1)).run = some oy) : ab Try.prog 52 (eg.aK pre F) :=
  aD av tB O2 (f := 52) (fn := Try.f52) (c := ak Try.f52) (by kernel_rfl) (by kernel_rfl) (by kernel_rfl) (S := eg) (k := 0) (by kernel_rfl) (fun R hR => ae) (n := 1000) (sel := DU) (fun v o h => by cases h; rfl) (pre := pre) (F := F) (T := fun x => DV (x.1.1) (x.1.2.1)) (fun x Q => aeN x Q) hF
def tM (p : Nat) (a : aa) : aa := cond (Nat.beq (a.nat % p) 0) ⟨0, 0, 0, 0⟩ (afG p a)
def QH (p : Nat) (x y i : aa) : Pt := (aQ p x (aQ p i i), aQ p y (aQ p (aQ p i i) i), false)
def eT (p : Nat) (w : Bg) : Pt := cond (cr w.2.2) aC (QH p w.1 w.2.1 (tM p w.2.2))
def kj (x : qY) : Bool := aj x.1.1
def NS (x : qY) : OT eg.Y := .ok ⟨ic, ((eT (pS x.1.1) x.1.2.1, ()), ())⟩
theorem YL : ab Try.prog 52 (eg.aK kj NS) := NR _ _ fun x oy hp ho => by
  rw [← ho]
  clear ho
  obtain ⟨⟨c, ⟨X, Y, Z⟩, ⟨⟩⟩, ⟨⟩⟩ := x
  have hs : aj c = true := hp
  show _ = (OT.ok ⟨ic, ((eT (pS c) (X, Y, Z), ()), ())⟩ : OT eg.Y).run
  unfold eT
  dsimp only
  cases hz : cr Z
  · refine (OT.ap hz).trans ((OT.ao hs).trans ?_)
    unfold tM
    cases hb : Nat.beq (Z.nat % pS c) 0
    · refine (OT.ap rfl).trans ((ai ?_).trans rfl)
      simp only [List.all_cons, List.all_nil, Bool.and_true, Bool.and_eq_true]
      exact ⟨hs, hs, hs, hs⟩
    · refine (OT.ao rfl).trans ((ai ?_).trans rfl)
      simp only [List.all_cons, List.all_nil, Bool.and_true, Bool.and_eq_true]
      exact ⟨hs, hs, hs, hs⟩
  · exact OT.ao hz
def py : cI := (eg.aK kj NS)
theorem JZ : ab Try.prog 52 py := YL
theorem JY : aJ py := aA
def pU : Env := az 52 py wg
theorem pT : aV Try.prog pU := ag JZ tB
theorem rX : aw pU := ac JY we
theorem KH : bg Try.prog te pU := aN follows av pT rX
def eh : aq := ⟨[.val false .int, .val true (.prod .elem (.prod .elem .elem))], [], true, 0, false⟩
abbrev ra : Type := ((Int) × ((aa × (aa × aa))) × Unit) × (Unit)
def mo : ay := ⟨[.val true (.prod .elem (.prod .elem .elem))], [], false⟩
def D0 : SV → Option ay := fun _ => some mo
def D1 (a0 : Int) (a1 : (aa × (aa × aa))) : OT eh.Y :=
  let z0 : Nat := pS a0
  let z1 : aa := aQ z0 a1.snd.fst a1.snd.fst
  let z2 : aa × PUnit := (z1, ())
  let z3 : aa := aQ z0 a1.fst z1
  let z4 : aa := aQ z0 a1.fst a1.fst
  let z5 : aa := jw z0 z4 (3 : UInt64)
  let z6 : aa := jw z0 z3 (4 : UInt64)
  let z7 : UInt64 × PUnit := ((2 : UInt64), ())
  let z8 : aa := aQ z0 z5 z5
  let z9 : aa := jw z0 z6 (2 : UInt64)
  let z10 : aa := eZ z0 z8 z9
  let z11 : aa := eZ z0 z6 z10
  let z12 : aa := aQ z0 z1 z1
  let z13 : aa := aQ z0 z5 z11
  let z14 : aa := jw z0 z12 (8 : UInt64)
  let z15 : aa := aQ z0 a1.snd.fst a1.snd.snd
  (.br (cr a1.snd.snd)
  (.ok ⟨mo, ((a1, ()), ())⟩)
  (gd [bt ((a0, a1.snd.fst, a1.snd.fst, ()), ()), bt ((a0, a1.fst, z2), ()), fT ((a0, z3, (4 : UInt64), ()), ()), bt ((a0, a1.fst, a1.fst, ()), ()), fT ((a0, z4, (3 : UInt64), ()), ()), bt ((a0, z5, z5, ()), ()), fT ((a0, z6, z7), ()), gK ((a0, z8, z9, ()), ()), gK ((a0, z6, z10, ()), ()), bt ((a0, z5, z11, ()), ()), bt ((a0, z1, z2), ()), fT ((a0, z12, (8 : UInt64), ()), ()), gK ((a0, z13, z14, ()), ()), bt ((a0, a1.snd.fst, a1.snd.snd, ()), ()), fT ((a0, z15, z7), ())] (.ok ⟨mo, (((z10, eZ z0 z13 z14, jw z0 z15 (2 : UInt64)), ()), ())⟩)))
theorem aeY (x : ra) (Q : eh.Y → Prop) : wpf te pU ax 1000 Try.f48 (eh.inp.inj x).tm (eh.inp.inj x).hp (fnK eh D0 Q) (fun _ _ => False) = (D1 (x.1.1) (x.1.2.1)).wpR Q := by kernel_rfl
theorem NX (pre : ra → Bool) (F : ra → OT eh.Y) (hF : ∀ (x : ra) oy, pre x = true → (F x).run = some oy → (D1 (x.1.1) (x.1.2.1)).run = some oy) : ab Try.prog 48 (eh.aK pre F) :=
  aD av pT KH (f := 48) (fn := Try.f48) (c := ak Try.f48) (by kernel_rfl) (by kernel_rfl) (by kernel_rfl) (S := eh) (k := 0) (by kernel_rfl) (fun R hR => ae) (n := 1000) (sel := D0) (fun v o h => by cases h; rfl) (pre := pre) (F := F) (T := fun x => D1 (x.1.1) (x.1.2.1)) (fun x Q => aeY x Q) hF
def apy (p : Nat) (x y z : aa) : Bg :=
  let yy := aQ p y y
  let s := jw p (aQ p x yy) 4
  let m := jw p (aQ p x x) 3
  let x' := eZ p (aQ p m m) (jw p s 2)
  (x', eZ p (aQ p m (eZ p s x')) (jw p (aQ p yy yy) 8), jw p (aQ p y z) 2)
def RN (p : Nat) (w : Bg) : Bg := cond (cr w.2.2) w (apy p w.1 w.2.1 w.2.2)
def nx (x : ra) : Bool := aj x.1.1
def NY (x : ra) : OT eh.Y := .ok ⟨mo, ((RN (pS x.1.1) x.1.2.1, ()), ())⟩
theorem YV : ab Try.prog 48 (eh.aK nx NY) := NX _ _ fun x oy hp ho => by
  rw [← ho]
  clear ho
  obtain ⟨⟨c, ⟨X, Y, Z⟩, ⟨⟩⟩, ⟨⟩⟩ := x
  have hs : aj c = true := hp
  show _ = (OT.ok ⟨mo, ((RN (pS c) (X, Y, Z), ()), ())⟩ : OT eh.Y).run
  unfold RN
  dsimp only
  cases hz : cr Z
  · refine (OT.ap hz).trans ((ai ?_).trans rfl)
    simp only [List.all_cons, List.all_nil, Bool.and_true, Bool.and_eq_true]
    exact ⟨hs, hs, hs, hs, hs, hs, hs, hs, hs, hs, hs, hs, hs, hs, hs⟩
  · exact OT.ao hz
def pD : cI := (eh.aK nx NY)
theorem J4 : ab Try.prog 48 pD := YV
theorem J3 : aJ pD := aA
def pW : Env := az 48 pD pU
theorem pV : aV Try.prog pW := ag J4 pT
theorem rY : aw pW := ac J3 rX
theorem KI : bg Try.prog te pW := aN follows av pV rY
def iW : aq := ⟨[.val false .int, .val true (.prod .elem (.prod .elem .elem)), .val true (.prod .elem (.prod .elem .elem))], [], true, 0, false⟩
abbrev Hu : Type := ((Int) × ((aa × (aa × aa))) × ((aa × (aa × aa))) × Unit) × (Unit)
def kS : ay := ⟨[.val true (.prod .elem (.prod .elem .elem))], [], false⟩
def N4 : SV → Option ay := fun _ => some kS
def R5 (a0 : Int) (a1 : (aa × (aa × aa))) (a2 : (aa × (aa × aa))) : OT iW.Y :=
  let z0 : aa × PUnit := (a1.snd.snd, ())
  let z1 : aa × PUnit := (a2.snd.snd, ())
  let z2 : Nat := pS a0
  let z3 : aa := aQ z2 a2.snd.snd a2.snd.snd
  let z4 : aa := aQ z2 a1.snd.snd a1.snd.snd
  let z5 : aa := aQ z2 z3 a2.snd.snd
  let z6 : aa := aQ z2 z4 a1.snd.snd
  let z7 : aa := aQ z2 a2.fst z4
  let z8 : aa := aQ z2 a1.fst z3
  let z9 : aa := aQ z2 a2.snd.fst z6
  let z10 : aa := aQ z2 a1.snd.fst z5
  let z11 : aa := eZ z2 z7 z8
  let z12 : aa := eZ z2 z9 z10
  let z13 : aa := { w0 := 0, w1 := 0, w2 := 0, w3 := 0 }
  let z14 : aa × PUnit := (z11, ())
  let z15 : aa := aQ z2 z11 z11
  let z16 : aa := aQ z2 z12 z12
  let z17 : aa := aQ z2 z15 z11
  let z18 : aa × PUnit := (z17, ())
  let z19 : aa := aQ z2 z8 z15
  let z20 : aa := eZ z2 z16 z17
  let z21 : aa := jw z2 z19 (2 : UInt64)
  let z22 : aa := eZ z2 z20 z21
  let z23 : aa := eZ z2 z19 z22
  let z24 : aa := aQ z2 z12 z23
  let z25 : aa := aQ z2 z10 z17
  let z26 : aa := aQ z2 a1.snd.snd a2.snd.snd
  (.br (cr a1.snd.snd)
  (.ok ⟨kS, ((a2, ()), ())⟩)
  (.br (cr a2.snd.snd)
    (.ok ⟨kS, ((a1, ()), ())⟩)
    (gd [bt ((a0, a1.snd.snd, z0), ()), bt ((a0, a2.snd.snd, z1), ()), bt ((a0, a1.fst, z3, ()), ()), bt ((a0, a2.fst, z4, ()), ()), bt ((a0, z3, z1), ()), bt ((a0, a1.snd.fst, z5, ()), ()), bt ((a0, z4, z0), ()), bt ((a0, a2.snd.fst, z6, ()), ()), gK ((a0, z7, z8, ()), ()), gK ((a0, z9, z10, ()), ())] (.br (z11.w0 == (0 : UInt64) && (z11.w1 == (0 : UInt64) && (z11.w2 == (0 : UInt64) && (z11.w3 == (0 : UInt64) && true))))
      (.br (z12.w0 == (0 : UInt64) && (z12.w1 == (0 : UInt64) && (z12.w2 == (0 : UInt64) && (z12.w3 == (0 : UInt64) && true))))
        (gd [nx ((a0, a1, ()), ())] (.ok ⟨kS, ((RN z2 a1, ()), ())⟩))
        (.ok ⟨kS, (((z13, z13, z13), ()), ())⟩))
      (gd [bt ((a0, z11, z14), ()), bt ((a0, z15, z14), ()), bt ((a0, z8, z15, ()), ()), bt ((a0, z12, z12, ()), ()), gK ((a0, z16, z18), ()), fT ((a0, z19, (2 : UInt64), ()), ()), gK ((a0, z20, z21, ()), ()), gK ((a0, z19, z22, ()), ()), bt ((a0, z12, z23, ()), ()), bt ((a0, z10, z18), ()), gK ((a0, z24, z25, ()), ()), bt ((a0, a1.snd.snd, z1), ()), bt ((a0, z11, z26, ()), ())] (.ok ⟨kS, (((z22, eZ z2 z24 z25, aQ z2 z11 z26), ()), ())⟩))))))
theorem amP (x : Hu) (Q : iW.Y → Prop) : wpf te pW ax 1000 Try.f50 (iW.inp.inj x).tm (iW.inp.inj x).hp (fnK iW N4 Q) (fun _ _ => False) = (R5 (x.1.1) (x.1.2.1) (x.1.2.2.1)).wpR Q := by kernel_rfl
theorem Y3 (pre : Hu → Bool) (F : Hu → OT iW.Y) (hF : ∀ (x : Hu) oy, pre x = true → (F x).run = some oy → (R5 (x.1.1) (x.1.2.1) (x.1.2.2.1)).run = some oy) : ab Try.prog 50 (iW.aK pre F) :=
  aD av pV KI (f := 50) (fn := Try.f50) (c := ak Try.f50) (by kernel_rfl) (by kernel_rfl) (by kernel_rfl) (S := iW) (k := 0) (by kernel_rfl) (fun R hR => ae) (n := 1000) (sel := N4) (fun v o h => by cases h; rfl) (pre := pre) (F := F) (T := fun x => R5 (x.1.1) (x.1.2.1) (x.1.2.2.1)) (fun x Q => amP x Q) hF
def apV (p : Nat) (u s h r Z1 Z2 : aa) : Bg :=
  let hh := aQ p h h
  let hhh := aQ p hh h
  let c := aQ p u hh
  let x := eZ p (eZ p (aQ p r r) hhh) (jw p c 2)
  (x, eZ p (aQ p r (eZ p c x)) (aQ p s hhh), aQ p h (aQ p Z1 Z2))
def apK (p : Nat) (w : Bg) (u s h r Z2 : aa) : Bg := cond (cr h) (cond (cr r) (RN p w) (⟨0, 0, 0, 0⟩, ⟨0, 0, 0, 0⟩, ⟨0, 0, 0, 0⟩)) (apV p u s h r w.2.2 Z2)
def apc (p : Nat) (w v : Bg) : Bg :=
  let pz := aQ p w.2.2 w.2.2
  let qz := aQ p v.2.2 v.2.2
  let u := aQ p w.1 qz
  let s := aQ p w.2.1 (aQ p qz v.2.2)
  apK p w u s (eZ p (aQ p v.1 pz) u) (eZ p (aQ p v.2.1 (aQ p pz w.2.2)) s) v.2.2
def OD (p : Nat) (w v : Bg) : Bg := cond (cr w.2.2) v (cond (cr v.2.2) w (apc p w v))
def vm (x : Hu) : Bool := aj x.1.1
def ae4 (x : Hu) : OT iW.Y := .ok ⟨kS, ((OD (pS x.1.1) x.1.2.1 x.1.2.2.1, ()), ())⟩
theorem aim : ab Try.prog 50 (iW.aK vm ae4) := Y3 _ _ fun x oy hp ho => by
  rw [← ho]
  clear ho
  obtain ⟨⟨c, ⟨X, Y, Z⟩, ⟨X2, Y2, Z2⟩, ⟨⟩⟩, ⟨⟩⟩ := x
  have hs : aj c = true := hp
  show _ = (OT.ok ⟨kS, ((OD (pS c) (X, Y, Z) (X2, Y2, Z2), ()), ())⟩ : OT iW.Y).run
  unfold OD
  dsimp only
  cases hz : cr Z
  · refine (OT.ap hz).trans ?_
    cases hz2 : cr Z2
    · refine (OT.ap rfl).trans ((ai ?_).trans ?_)
      · simp only [List.all_cons, List.all_nil, Bool.and_true, Bool.and_eq_true]
        exact ⟨hs, hs, hs, hs, hs, hs, hs, hs, hs, hs⟩
      · unfold apc apK
        dsimp only [cond_false]
        cases hh : cr (eZ (pS c) (aQ (pS c) X2 (aQ (pS c) Z Z)) (aQ (pS c) X (aQ (pS c) Z2 Z2)))
        · refine (OT.ap hh).trans ((ai ?_).trans rfl)
          simp only [List.all_cons, List.all_nil, Bool.and_true, Bool.and_eq_true]
          exact ⟨hs, hs, hs, hs, hs, hs, hs, hs, hs, hs, hs, hs, hs⟩
        · refine (OT.ao hh).trans ?_
          dsimp only [cond_true]
          cases hr : cr (eZ (pS c) (aQ (pS c) Y2 (aQ (pS c) (aQ (pS c) Z Z) Z)) (aQ (pS c) Y (aQ (pS c) (aQ (pS c) Z2 Z2) Z2)))
          · exact OT.ap hr
          · refine (OT.ao hr).trans ((ai ?_).trans rfl)
            simp only [List.all_cons, List.all_nil, Bool.and_true]
            exact hs
    · exact OT.ao rfl
  · exact OT.ao hz
def yq : cI := (iW.aK vm ae4)
theorem R4 : ab Try.prog 50 yq := aim
theorem R3 : aJ yq := aA
def Fm : Env := az 50 yq pW
theorem zd : aV Try.prog Fm := ag R4 pV
theorem Ap : aw Fm := ac R3 rY
theorem SU : bg Try.prog te Fm := aN follows av zd Ap
def nX : aq := ⟨[.val false .int, .val true (.prod .elem (.prod .elem .bool)), .val true (.prod .elem (.prod .elem .bool))], [], true, 0, false⟩
abbrev Y0 : Type := ((Int) × ((aa × (aa × Bool))) × ((aa × (aa × Bool))) × Unit) × (Unit)
def yp : ay := ⟨[.val true (.prod .elem (.prod .elem .bool))], [], false⟩
def V3 : SV → Option ay := fun _ => some yp
def ae3 (a0 : Int) (a1 : (aa × (aa × Bool))) (a2 : (aa × (aa × Bool))) : OT nX.Y :=
  let z0 : aa := { w0 := 0, w1 := 0, w2 := 0, w3 := 0 }
  let z1 : aa × aa × Bool := (z0, z0, true)
  let z2 : aa × aa × aa := eK a1
  let z3 : aa × aa × aa := eK a2
  let z4 : Nat := pS a0
  let z5 : aa × aa × aa := OD z4 z2 z3
  (.br (!onB a0 a1)
  (.ok ⟨yp, ((z1, ()), ())⟩)
  (.br (!onB a0 a2)
    (.ok ⟨yp, ((z1, ()), ())⟩)
    (gd [vm ((a0, z2, z3, ()), ()), kj ((a0, z5, ()), ())] (.ok ⟨yp, ((eT z4 z5, ()), ())⟩))))
theorem aoL (x : Y0) (Q : nX.Y → Prop) : wpf te Fm ax 1000 Try.f25 (nX.inp.inj x).tm (nX.inp.inj x).hp (fnK nX V3 Q) (fun _ _ => False) = (ae3 (x.1.1) (x.1.2.1) (x.1.2.2.1)).wpR Q := by kernel_rfl
theorem ae2 (pre : Y0 → Bool) (F : Y0 → OT nX.Y) (hF : ∀ (x : Y0) oy, pre x = true → (F x).run = some oy → (ae3 (x.1.1) (x.1.2.1) (x.1.2.2.1)).run = some oy) : ab Try.prog 25 (nX.aK pre F) :=
  aD av zd SU (f := 25) (fn := Try.f25) (c := ak Try.f25) (by kernel_rfl) (by kernel_rfl) (by kernel_rfl) (S := nX) (k := 0) (by kernel_rfl) (fun R hR => ae) (n := 1000) (sel := V3) (fun v o h => by cases h; rfl) (pre := pre) (F := F) (T := fun x => ae3 (x.1.1) (x.1.2.1) (x.1.2.2.1)) (fun x Q => aoL x Q) hF
def eD (c : Int) (P Q : Pt) : Pt := cond (onB c P) (cond (onB c Q) (eT (pS c) (OD (pS c) (eK P) (eK Q))) aC) aC
def V4 (_ : Y0) : Bool := true
def aji (x : Y0) : OT nX.Y := .ok ⟨yp, ((eD x.1.1 x.1.2.1 x.1.2.2.1, ()), ())⟩
theorem amO : ab Try.prog 25 (nX.aK V4 aji) := ae2 _ _ fun x oy _ ho => by
  rw [← ho]
  clear ho
  obtain ⟨⟨c, P, Q, ⟨⟩⟩, ⟨⟩⟩ := x
  show _ = (OT.ok ⟨yp, ((eD c P Q, ()), ())⟩ : OT nX.Y).run
  rcases (Bool.eq_false_or_eq_true (onB c P)).symm with h1 | h1
  · have e : eD c P Q = aC := by unfold eD; rw [h1]; rfl
    rw [e]
    exact OT.ao (b := !onB c P) (by rw [h1]; rfl)
  · have hs := mZ h1
    refine (OT.ap (b := !onB c P) (by rw [h1]; rfl)).trans ?_
    rcases (Bool.eq_false_or_eq_true (onB c Q)).symm with h2 | h2
    · have e : eD c P Q = aC := by unfold eD; rw [h1, h2]; rfl
      rw [e]
      exact OT.ao (b := !onB c Q) (by rw [h2]; rfl)
    · have e : eD c P Q = eT (pS c) (OD (pS c) (eK P) (eK Q)) := by unfold eD; rw [h1, h2]; rfl
      rw [e]
      refine (OT.ap (b := !onB c Q) (by rw [h2]; rfl)).trans ((ai ?_).trans rfl)
      simp only [List.all_cons, List.all_nil, Bool.and_true, Bool.and_eq_true]
      exact ⟨hs, hs⟩
def D3 : cI := (nX.aK V4 aji)
theorem YZ : ab Try.prog 25 D3 := amO
theorem YY : aJ D3 := aA
def HT : Env := az 25 D3 Fm
theorem wl : aV Try.prog HT := ag YZ zd
theorem Fl : aw HT := ac YY Ap
theorem HS : bg Try.prog te HT := aN follows av wl Fl
def iV : aq := ⟨[.val false .int, .val true .elem, .val true (.prod .elem (.prod .elem .bool))], [], true, 0, false⟩
abbrev Hn : Type := ((Int) × (aa) × ((aa × (aa × Bool))) × Unit) × (Unit)
def vj : Shape := ⟨39, [(4, .ptr 0 0 0), (5, .ptr 1 0 0), (6, .ptr 2 0 0), (7, .val false .int), (8, .ptr 3 0 0), (9, .val false .int)], [(0, .row .u64), (1, .cells [.val false .u64, .val false .u64, .val false .u64, .val false .u64, .val false .u64, .val false .u64, .val false .u64, .val false .u64, .val false .bool]), (2, .cells [.val false .u64, .val false .u64, .val false .u64, .val false .u64, .val false .u64, .val false .u64, .val false .u64, .val false .u64, .val false .bool]), (3, .cells [.val false .u64, .val false .u64, .val false .u64, .val false .u64, .val false .u64, .val false .u64, .val false .u64, .val false .u64, .val false .u64, .val false .u64, .val false .u64, .val false .u64])], 0, true⟩
abbrev cC : Type := ((Unit) × (Unit) × (Unit) × (Int) × (Unit) × (Int) × Unit) × ((List (UInt64)) × ((UInt64) × (UInt64) × (UInt64) × (UInt64) × (UInt64) × (UInt64) × (UInt64) × (UInt64) × (Bool) × Unit) × ((UInt64) × (UInt64) × (UInt64) × (UInt64) × (UInt64) × (UInt64) × (UInt64) × (UInt64) × (Bool) × Unit) × ((UInt64) × (UInt64) × (UInt64) × (UInt64) × (UInt64) × (UInt64) × (UInt64) × (UInt64) × (UInt64) × (UInt64) × (UInt64) × (UInt64) × Unit) × Unit)
def q9 : Shape := ⟨39, [(6, .ptr 0 0 0), (7, .val false .int), (8, .ptr 1 0 0)], [(0, .cells [.val false .u64, .val false .u64, .val false .u64, .val false .u64, .val false .u64, .val false .u64, .val false .u64, .val false .u64, .val false .bool]), (1, .cells [.val false .u64, .val false .u64, .val false .u64, .val false .u64, .val false .u64, .val false .u64, .val false .u64, .val false .u64, .val false .u64, .val false .u64, .val false .u64, .val false .u64])], 0, true⟩
abbrev kk : Type := ((Unit) × (Int) × (Unit) × Unit) × (((UInt64) × (UInt64) × (UInt64) × (UInt64) × (UInt64) × (UInt64) × (UInt64) × (UInt64) × (Bool) × Unit) × ((UInt64) × (UInt64) × (UInt64) × (UInt64) × (UInt64) × (UInt64) × (UInt64) × (UInt64) × (UInt64) × (UInt64) × (UInt64) × (UInt64) × Unit) × Unit)
def VS : SE → Option Shape := ku [(0, q9)] none
def aif (a7 : Int) (a9 : Int) (c0 : List (UInt64)) (c1_0 : UInt64) (c1_1 : UInt64) (c1_2 : UInt64) (c1_3 : UInt64) (c1_4 : UInt64) (c1_5 : UInt64) (c1_6 : UInt64) (c1_7 : UInt64) (c1_8 : Bool) (c2_0 : UInt64) (c2_1 : UInt64) (c2_2 : UInt64) (c2_3 : UInt64) (c2_4 : UInt64) (c2_5 : UInt64) (c2_6 : UInt64) (c2_7 : UInt64) (c2_8 : Bool) (c3_0 : UInt64) (c3_1 : UInt64) (c3_2 : UInt64) (c3_3 : UInt64) (c3_4 : UInt64) (c3_5 : UInt64) (c3_6 : UInt64) (c3_7 : UInt64) (c3_8 : UInt64) (c3_9 : UInt64) (c3_10 : UInt64) (c3_11 : UInt64) : OT (Sum cC aO) :=
  let z0 : aa × aa × aa := ({ w0 := c3_0, w1 := c3_1, w2 := c3_2, w3 := c3_3 }, { w0 := c3_4, w1 := c3_5, w2 := c3_6, w3 := c3_7 }, { w0 := c3_8, w1 := c3_9, w2 := c3_10, w3 := c3_11 })
  let z1 : Nat := pS a7
  let z2 : aa × aa × aa := RN z1 z0
  let z3 : aa × aa × aa := eK ({ w0 := c1_0, w1 := c1_1, w2 := c1_2, w3 := c1_3 }, { w0 := c1_4, w1 := c1_5, w2 := c1_6, w3 := c1_7 }, c1_8)
  let z4 : Bool := inR (a9 - (1 : Int))
  let z5 : aa × aa × aa := OD z1 z2 z3
  let z6 := z5.fst
  let z7 := z5.snd
  let z8 := z7.fst
  let z9 := z7.snd
  let z10 := z2.fst
  let z11 := z2.snd
  let z12 := z11.fst
  let z13 := z11.snd
  (.br (decide ((0 : Int) ≤ a9))
  (gd [nx ((a7, z0, ()), ()), decide (4 ≤ List.length c0)] (.br (nZ { w0 := List.getD c0 0 0, w1 := List.getD c0 1 0, w2 := List.getD c0 2 0, w3 := List.getD c0 3 0 } a9)
    (gd [vm ((a7, z2, z3, ()), ()), z4] (.ok (.inl (((), ((), ((), (a7, ((), (a9 - (1 : Int), ())))))), (c0, ((c1_0, (c1_1, (c1_2, (c1_3, (c1_4, (c1_5, (c1_6, (c1_7, (c1_8, ()))))))))), ((c2_0, (c2_1, (c2_2, (c2_3, (c2_4, (c2_5, (c2_6, (c2_7, (c2_8, ()))))))))), ((z6.w0, (z6.w1, (z6.w2, (z6.w3, (z8.w0, (z8.w1, (z8.w2, (z8.w3, (z9.w0, (z9.w1, (z9.w2, (z9.w3, ())))))))))))), ()))))))))
    (gd [z4] (.ok (.inl (((), ((), ((), (a7, ((), (a9 - (1 : Int), ())))))), (c0, ((c1_0, (c1_1, (c1_2, (c1_3, (c1_4, (c1_5, (c1_6, (c1_7, (c1_8, ()))))))))), ((c2_0, (c2_1, (c2_2, (c2_3, (c2_4, (c2_5, (c2_6, (c2_7, (c2_8, ()))))))))), ((z10.w0, (z10.w1, (z10.w2, (z10.w3, (z12.w0, (z12.w1, (z12.w2, (z12.w3, (z13.w0, (z13.w1, (z13.w2, (z13.w3, ())))))))))))), ()))))))))))
  (.ok (.inr ⟨(.exit 0, q9), (((), (a7, ((), ()))), ((c2_0, (c2_1, (c2_2, (c2_3, (c2_4, (c2_5, (c2_6, (c2_7, (c2_8, ()))))))))), ((c3_0, (c3_1, (c3_2, (c3_3, (c3_4, (c3_5, (c3_6, (c3_7, (c3_8, (c3_9, (c3_10, (c3_11, ())))))))))))), ())))⟩)))
def vk (s : cC) : OT (Sum cC aO) := aif (s.1.2.2.2.1) (s.1.2.2.2.2.2.1) (s.2.1) (s.2.2.1.1) (s.2.2.1.2.1) (s.2.2.1.2.2.1) (s.2.2.1.2.2.2.1) (s.2.2.1.2.2.2.2.1) (s.2.2.1.2.2.2.2.2.1) (s.2.2.1.2.2.2.2.2.2.1) (s.2.2.1.2.2.2.2.2.2.2.1) (s.2.2.1.2.2.2.2.2.2.2.2.1) (s.2.2.2.1.1) (s.2.2.2.1.2.1) (s.2.2.2.1.2.2.1) (s.2.2.2.1.2.2.2.1) (s.2.2.2.1.2.2.2.2.1) (s.2.2.2.1.2.2.2.2.2.1) (s.2.2.2.1.2.2.2.2.2.2.1) (s.2.2.2.1.2.2.2.2.2.2.2.1) (s.2.2.2.1.2.2.2.2.2.2.2.2.1) (s.2.2.2.2.1.1) (s.2.2.2.2.1.2.1) (s.2.2.2.2.1.2.2.1) (s.2.2.2.2.1.2.2.2.1) (s.2.2.2.2.1.2.2.2.2.1) (s.2.2.2.2.1.2.2.2.2.2.1) (s.2.2.2.2.1.2.2.2.2.2.2.1) (s.2.2.2.2.1.2.2.2.2.2.2.2.1) (s.2.2.2.2.1.2.2.2.2.2.2.2.2.1) (s.2.2.2.2.1.2.2.2.2.2.2.2.2.2.1) (s.2.2.2.2.1.2.2.2.2.2.2.2.2.2.2.1) (s.2.2.2.2.1.2.2.2.2.2.2.2.2.2.2.2.1)
theorem aic (s : cC) (Q : Sum cC aO → Prop) : wps te HT ax 1000 (bG (ak Try.f15) 0) (vj.inj s) (cU vj VS (Q : Sum vj.T aO → Prop)) = (vk s).wpR Q := by kernel_rfl
def A9 (g0_0 : cC → kk) (s : cC) : OT aO := (.ok ⟨(.exit 0, q9), g0_0 s⟩)
def qZ : ay := ⟨[.val true (.prod .elem (.prod .elem .bool))], [], false⟩
def NT : SV → Option ay := fun _ => some qZ
def RS (ok0 : cC → Bool) (g0_0 : cC → kk) (a0 : Int) (a1 : aa) (a2 : (aa × (aa × Bool))) : OT iV.Y :=
  let z0 : aa := { w0 := 0, w1 := 0, w2 := 0, w3 := 0 }
  let z1 : Int := tL a0 (1 : Int)
  let z2 : PUnit × PUnit × PUnit × Int × PUnit × Int × PUnit := ((), (), (), a0, (), (255 : Int), ())
  let z3 : aa := n0 (pS z1) a1 z0
  let z4 : (UInt64 × UInt64 × UInt64 × UInt64 × UInt64 × UInt64 × UInt64 × UInt64 × Bool × PUnit) × (UInt64 × UInt64 × UInt64 × UInt64 × UInt64 × UInt64 × UInt64 × UInt64 × Bool × PUnit) × (UInt64 × UInt64 × UInt64 × UInt64 × UInt64 × UInt64 × UInt64 × UInt64 × UInt64 × UInt64 × UInt64 × UInt64 × PUnit) × PUnit := ((a2.fst.w0, a2.fst.w1, a2.fst.w2, a2.fst.w3, a2.snd.fst.w0, a2.snd.fst.w1, a2.snd.fst.w2, a2.snd.fst.w3, a2.snd.snd, ()), ((0 : UInt64), (0 : UInt64), (0 : UInt64), (0 : UInt64), (0 : UInt64), (0 : UInt64), (0 : UInt64), (0 : UInt64), false, ()), ((0 : UInt64), (0 : UInt64), (0 : UInt64), (0 : UInt64), (0 : UInt64), (0 : UInt64), (0 : UInt64), (0 : UInt64), (0 : UInt64), (0 : UInt64), (0 : UInt64), (0 : UInt64), ()), ())
  let z5 : (PUnit × PUnit × PUnit × Int × PUnit × Int × PUnit) × List UInt64 × (UInt64 × UInt64 × UInt64 × UInt64 × UInt64 × UInt64 × UInt64 × UInt64 × Bool × PUnit) × (UInt64 × UInt64 × UInt64 × UInt64 × UInt64 × UInt64 × UInt64 × UInt64 × Bool × PUnit) × (UInt64 × UInt64 × UInt64 × UInt64 × UInt64 × UInt64 × UInt64 × UInt64 × UInt64 × UInt64 × UInt64 × UInt64 × PUnit) × PUnit := (z2, [z3.w0, z3.w1, z3.w2, z3.w3], z4)
  let z6 : (PUnit × Int × PUnit × PUnit) × (UInt64 × UInt64 × UInt64 × UInt64 × UInt64 × UInt64 × UInt64 × UInt64 × Bool × PUnit) × (UInt64 × UInt64 × UInt64 × UInt64 × UInt64 × UInt64 × UInt64 × UInt64 × UInt64 × UInt64 × UInt64 × UInt64 × PUnit) × PUnit := g0_0 z5
  let z7 := z6.fst.snd.fst
  let z8 := z6.snd.snd.fst
  let z9 := z8.snd
  let z10 := z9.snd
  let z11 := z10.snd
  let z12 := z11.snd
  let z13 := z12.snd
  let z14 := z13.snd
  let z15 := z14.snd
  let z16 := z15.snd
  let z17 := z16.snd
  let z18 := z17.snd
  let z19 : aa × aa × aa := ({ w0 := z8.fst, w1 := z9.fst, w2 := z10.fst, w3 := z11.fst }, { w0 := z12.fst, w1 := z13.fst, w2 := z14.fst, w3 := z15.fst }, { w0 := z16.fst, w1 := z17.fst, w2 := z18.fst, w3 := z18.snd.fst })
  let z20 : (PUnit × PUnit × PUnit × Int × PUnit × Int × PUnit) × List UInt64 × (UInt64 × UInt64 × UInt64 × UInt64 × UInt64 × UInt64 × UInt64 × UInt64 × Bool × PUnit) × (UInt64 × UInt64 × UInt64 × UInt64 × UInt64 × UInt64 × UInt64 × UInt64 × Bool × PUnit) × (UInt64 × UInt64 × UInt64 × UInt64 × UInt64 × UInt64 × UInt64 × UInt64 × UInt64 × UInt64 × UInt64 × UInt64 × PUnit) × PUnit := (z2, [(0 : UInt64), (0 : UInt64), (0 : UInt64), (0 : UInt64)], z4)
  let z21 : (PUnit × Int × PUnit × PUnit) × (UInt64 × UInt64 × UInt64 × UInt64 × UInt64 × UInt64 × UInt64 × UInt64 × Bool × PUnit) × (UInt64 × UInt64 × UInt64 × UInt64 × UInt64 × UInt64 × UInt64 × UInt64 × UInt64 × UInt64 × UInt64 × UInt64 × PUnit) × PUnit := g0_0 z20
  let z22 := z21.fst.snd.fst
  let z23 := z21.snd.snd.fst
  let z24 := z23.snd
  let z25 := z24.snd
  let z26 := z25.snd
  let z27 := z26.snd
  let z28 := z27.snd
  let z29 := z28.snd
  let z30 := z29.snd
  let z31 := z30.snd
  let z32 := z31.snd
  let z33 := z32.snd
  let z34 : aa × aa × aa := ({ w0 := z23.fst, w1 := z24.fst, w2 := z25.fst, w3 := z26.fst }, { w0 := z27.fst, w1 := z28.fst, w2 := z29.fst, w3 := z30.fst }, { w0 := z31.fst, w1 := z32.fst, w2 := z33.fst, w3 := z33.snd.fst })
  (.br (!onB a0 a2)
  (.ok ⟨qZ, (((z0, z0, true), ()), ())⟩)
  (.br (aj z1)
    (gd [ok0 z5, kj ((z7, z19, ()), ())] (.ok ⟨qZ, ((eT (pS z7) z19, ()), ())⟩))
    (gd [ok0 z20, kj ((z22, z34, ()), ())] (.ok ⟨qZ, ((eT (pS z22) z34, ()), ())⟩))))
theorem amJ (ok0 : cC → Bool) (g0_0 : cC → kk) (x : Hn) (Q : iV.Y → Prop) : wpf te HT (bp 0 (dv vj 0 ok0 (A9 g0_0)) ax) 1000 Try.f15 (iV.inp.inj x).tm (iV.inp.inj x).hp (fnK iV NT Q) (fun _ _ => False) = (RS ok0 g0_0 (x.1.1) (x.1.2.1) (x.1.2.2.1)).wpR Q := by kernel_rfl
theorem YM (ok0 : cC → Bool) (g0_0 : cC → kk) (h0 : ∀ s : cC, ok0 s = true → ∃ m e, au (vk) m s = some e ∧ (A9 g0_0 s).run = some e) (pre : Hn → Bool) (F : Hn → OT iV.Y) (hF : ∀ (x : Hn) oy, pre x = true → (F x).run = some oy → (RS ok0 g0_0 (x.1.1) (x.1.2.1) (x.1.2.2.1)).run = some oy) : ab Try.prog 15 (iV.aK pre F) :=
  aD av wl HS (f := 15) (fn := Try.f15) (c := ak Try.f15) (by kernel_rfl) (by kernel_rfl) (by kernel_rfl) (S := iV) (k := 0) (by kernel_rfl) (fun R hR => (aI (c := (ak Try.f15)) (by kernel_rfl) (id := 0) (by kernel_rfl) (bw av wl HS (sh := vj) hR (xs := VS) (aH (by kernel_rfl) (by kernel_rfl) hR) aW ae (n := 1000) (T := vk) (fun s Q => aic s Q) (ok := ok0) (f := A9 g0_0) h0) ae)) (n := 1000) (sel := NT) (fun v o h => by cases h; rfl) (pre := pre) (F := F) (T := fun x => RS ok0 g0_0 (x.1.1) (x.1.2.1) (x.1.2.2.1)) (fun x Q => amJ ok0 g0_0 x Q) hF
abbrev C9 : Type := UInt64 × UInt64 × UInt64 × UInt64 × UInt64 × UInt64 × UInt64 × UInt64 × Bool × Unit
abbrev C12 : Type := UInt64 × UInt64 × UInt64 × UInt64 × UInt64 × UInt64 × UInt64 × UInt64 × UInt64 × UInt64 × UInt64 × UInt64 × Unit
def kl (t : C9) : Pt := (⟨t.1, t.2.1, t.2.2.1, t.2.2.2.1⟩, ⟨t.2.2.2.2.1, t.2.2.2.2.2.1, t.2.2.2.2.2.2.1, t.2.2.2.2.2.2.2.1⟩, t.2.2.2.2.2.2.2.2.1)
def aoK (t : C12) : Bg := (⟨t.1, t.2.1, t.2.2.1, t.2.2.2.1⟩, ⟨t.2.2.2.2.1, t.2.2.2.2.2.1, t.2.2.2.2.2.2.1, t.2.2.2.2.2.2.2.1⟩, ⟨t.2.2.2.2.2.2.2.2.1, t.2.2.2.2.2.2.2.2.2.1, t.2.2.2.2.2.2.2.2.2.2.1, t.2.2.2.2.2.2.2.2.2.2.2.1⟩)
def amk (w : Bg) : C12 := (w.1.w0, w.1.w1, w.1.w2, w.1.w3, w.2.1.w0, w.2.1.w1, w.2.1.w2, w.2.1.w3, w.2.2.w0, w.2.2.w1, w.2.2.w2, w.2.2.w3, ())
def gZ (p : Nat) (k : aa) (P : Bg) (n : Nat) (w : Bg) : Bg := cond (nZ k (255 - (n : Int))) (OD p (RN p w) P) (RN p w)
def DW (s : cC) : Bool := aj s.1.2.2.2.1 && decide (s.1.2.2.2.2.2.1 = 255 ∧ s.2.1.length = 4)
def VT (s : cC) : kk := (((), s.1.2.2.2.1, (), ()), (s.2.2.2.1, amk (upto (gZ (pS s.1.2.2.2.1) (elemOf s.2.1) (eK (kl s.2.2.1))) (aoK s.2.2.2.2.1) 256), ()))
theorem aie : ∀ s : cC, DW s = true → ∃ m e, au vk m s = some e ∧ (A9 VT s).run = some e := by
  rintro ⟨⟨⟨⟩, ⟨⟩, ⟨⟩, c, ⟨⟩, i, ⟨⟩⟩, ⟨l, ⟨p0, p1, p2, p3, p4, p5, p6, p7, p8, ⟨⟩⟩, ⟨q0, q1, q2, q3, q4, q5, q6, q7, q8, ⟨⟩⟩, ⟨w0, w1, w2, w3, w4, w5, w6, w7, w8, w9, w10, w11, ⟨⟩⟩, ⟨⟩⟩⟩ h
  simp only [DW, Bool.and_eq_true, decide_eq_true_eq] at h
  obtain ⟨hs, rfl, hl⟩ := h
  obtain ⟨k, rfl⟩ : ∃ a, l = lst a := ⟨elemOf l, (bc hl).symm⟩
  have := (bF (T := vk) (fun n w => ((((), (), (), c, (), 255 - (n : Int), ()), (lst k, (p0, p1, p2, p3, p4, p5, p6, p7, p8, ()), (q0, q1, q2, q3, q4, q5, q6, q7, q8, ()), amk w, ())) : cC)) (gZ (pS c) k (eK (kl (p0, p1, p2, p3, p4, p5, p6, p7, p8, ()))))
    (fun w => (⟨(.exit 0, q9), (((), c, (), ()), ((q0, q1, q2, q3, q4, q5, q6, q7, q8, ()), amk w, ()))⟩ : aO)) 256 (aoK (w0, w1, w2, w3, w4, w5, w6, w7, w8, w9, w10, w11, ())) (fun _ _ => True) trivial (fun n w hn _ => ⟨?_, trivial⟩) (fun w _ => ?_)).1
  · obtain ⟨m, hm⟩ := this
    exact ⟨m, _, hm, rfl⟩
  · have e2 : (255 : Int) - (n : Int) - 1 = 255 - ((n + 1 : Nat) : Int) := by omega
    refine (OT.ao (decide_eq_true (by dsimp only; omega))).trans ((ai ?_).trans ?_)
    · simp only [List.all_cons, List.all_nil, Bool.and_true, Bool.and_eq_true]
      exact ⟨hs, rfl⟩
    · rcases (Bool.eq_false_or_eq_true (nZ k (255 - (n : Int)))).symm with hb | hb
      · have e : gZ (pS c) k (eK (kl (p0, p1, p2, p3, p4, p5, p6, p7, p8, ()))) n w = RN (pS c) w := by unfold gZ; rw [hb]; rfl
        rw [e, ← e2]
        refine (OT.ap hb).trans ((ai ?_).trans rfl)
        simp only [List.all_cons, List.all_nil, Bool.and_true]
        exact bC (by omega)
      · have e : gZ (pS c) k (eK (kl (p0, p1, p2, p3, p4, p5, p6, p7, p8, ()))) n w = OD (pS c) (RN (pS c) w) (eK (kl (p0, p1, p2, p3, p4, p5, p6, p7, p8, ()))) := by unfold gZ; rw [hb]; rfl
        rw [e, ← e2]
        refine (OT.ao hb).trans ((ai ?_).trans rfl)
        simp only [List.all_cons, List.all_nil, Bool.and_true, Bool.and_eq_true]
        exact ⟨hs, bC (by omega)⟩
  · exact OT.ap (decide_eq_false (by dsimp only; omega))
def ZD : Bg := (⟨0, 0, 0, 0⟩, ⟨0, 0, 0, 0⟩, ⟨0, 0, 0, 0⟩)
def apS (p : Nat) (k : aa) (P : Bg) : Bg := upto (gZ p k P) ZD 256
def wJ (c : Int) (k : aa) : aa := n0 (pS (tL c 1)) k ⟨0, 0, 0, 0⟩
def sE (c : Int) (k : aa) (P : Pt) : Pt := cond (onB c P) (eT (pS c) (apS (pS c) (wJ c k) (eK P))) aC
theorem fJ {c : Int} (h : aj c = true) : aj (tL c 1) = true := by
  rcases cu h with rfl | rfl | rfl | rfl <;> decide +kernel
def NU (_ : Hn) : Bool := true
def aeO (x : Hn) : OT iV.Y := .ok ⟨qZ, ((sE x.1.1 x.1.2.1 x.1.2.2.1, ()), ())⟩
theorem aid : ab Try.prog 15 (iV.aK NU aeO) := YM DW VT aie _ _ fun x oy _ ho => by
  rw [← ho]
  clear ho
  obtain ⟨⟨c, k, P, ⟨⟩⟩, ⟨⟩⟩ := x
  show _ = (OT.ok ⟨qZ, ((sE c k P, ()), ())⟩ : OT iV.Y).run
  rcases (Bool.eq_false_or_eq_true (onB c P)).symm with h1 | h1
  · have e : sE c k P = aC := by unfold sE; rw [h1]; rfl
    rw [e]
    exact OT.ao (b := !onB c P) (by rw [h1]; rfl)
  · have hs := mZ h1
    have e : sE c k P = eT (pS c) (apS (pS c) (wJ c k) (eK P)) := by unfold sE; rw [h1]; rfl
    rw [e]
    refine (OT.ap (b := !onB c P) (by rw [h1]; rfl)).trans ((OT.ao (fJ hs)).trans ((ai ?_).trans ?_))
    · simp only [List.all_cons, List.all_nil, Bool.and_true, Bool.and_eq_true]
      refine ⟨?_, hs⟩
      refine (Bool.and_eq_true _ _).mpr ⟨hs, ?_⟩
      exact decide_eq_true (p := (255 : Int) = 255 ∧ (lst (wJ c k)).length = 4) ⟨rfl, rfl⟩
    · rfl
def yl : cI := (iV.aK NU aeO)
theorem RR : ab Try.prog 15 yl := aid
theorem RQ : aJ yl := aA
def Ff : Env := az 15 yl HT
theorem zb : aV Try.prog Ff := ag RR wl
theorem An : aw Ff := ac RQ Fl
theorem SR : bg Try.prog te Ff := aN follows av zb An
def gf : aq := ⟨[.val false .int], [], true, 0, false⟩
abbrev zj : Type := ((Int) × Unit) × (Unit)
def jb : ay := ⟨[.val true .elem, .val false .int], [], false⟩
def LQ : SV → Option ay := fun _ => some jb
def Qa (a0 : Int) : OT gf.Y :=
  (.br (a0 == (0 : Int))
  (.ok ⟨jb, (({ w0 := 16513537, w1 := 0, w2 := 0, w3 := 0 }, ((0 : Int), ())), ())⟩)
  (.br (a0 == (1 : Int))
    (.ok ⟨jb, (({ w0 := 16521217, w1 := 0, w2 := 0, w3 := 0 }, ((0 : Int), ())), ())⟩)
    (.br (a0 == (2 : Int))
      (.ok ⟨jb, (({ w0 := 11037532056220336129, w1 := 2469829653914515739, w2 := 0, w3 := 4611686018427387904 }, ((0 : Int), ())), ())⟩)
      (.br (a0 == (3 : Int))
        (.ok ⟨jb, (({ w0 := 10108024940646105089, w1 := 2469829653919213789, w2 := 0, w3 := 4611686018427387904 }, ((0 : Int), ())), ())⟩)
        (.ok ⟨jb, (({ w0 := 0, w1 := 0, w2 := 0, w3 := 0 }, ((20 : Int), ())), ())⟩)))))
theorem alo (x : zj) (Q : gf.Y → Prop) : wpf te Ff ax 1000 Try.f85 (gf.inp.inj x).tm (gf.inp.inj x).hp (fnK gf LQ Q) (fun _ _ => False) = (Qa (x.1.1)).wpR Q := by kernel_rfl
theorem WZ (pre : zj → Bool) (F : zj → OT gf.Y) (hF : ∀ (x : zj) oy, pre x = true → (F x).run = some oy → (Qa (x.1.1)).run = some oy) : ab Try.prog 85 (gf.aK pre F) :=
  aD av zb SR (f := 85) (fn := Try.f85) (c := ak Try.f85) (by kernel_rfl) (by kernel_rfl) (by kernel_rfl) (S := gf) (k := 0) (by kernel_rfl) (fun R hR => ae) (n := 1000) (sel := LQ) (fun v o h => by cases h; rfl) (pre := pre) (F := F) (T := fun x => Qa (x.1.1)) (fun x Q => alo x Q) hF
def LR (_ : zj) : Bool := true
def ab7 (x : zj) : OT gf.Y := .br (aj x.1.1) (.ok ⟨jb, (((bQ x.1.1.toNat).1, ((0 : Int), ())), ())⟩) (.ok ⟨jb, ((⟨0, 0, 0, 0⟩, ((20 : Int), ())), ())⟩)
theorem Ul : ab Try.prog 85 (gf.aK LR ab7) := WZ _ _ fun x oy _ ho => by
  rw [← ho]
  clear ho
  obtain ⟨⟨s, ⟨⟩⟩, ⟨⟩⟩ := x
  cases hs : aj s
  · obtain ⟨h0, h1, h2, h3⟩ := pZ hs
    exact (OT.ap h0).trans ((OT.ap h1).trans ((OT.ap h2).trans ((OT.ap h3).trans (OT.ap (b := aj s) hs).symm)))
  · rcases cu hs with h | h | h | h
    all_goals
      have h : s = _ := h
      subst h
      rfl
def xg : cI := (gf.aK LR ab7)
theorem P9 : ab Try.prog 85 xg := Ul
theorem P8 : aJ xg := aA
def Ev : Env := az 85 xg Ff
theorem yO : aV Try.prog Ev := ag P9 zb
theorem zS : aw Ev := ac P8 An
theorem SG : bg Try.prog te Ev := aN follows av yO zS
def gl : aq := ⟨[.val false .int], [], true, 0, false⟩
abbrev zm : Type := ((Int) × Unit) × (Unit)
def mW : ay := ⟨[.val false .int, .val false .int], [], false⟩
def Ma : SV → Option ay := fun _ => some mW
def Qu (a0 : Int) : OT gl.Y :=
  (.br (decide (a0 < (0 : Int)))
  (.ok ⟨mW, (((0 : Int), ((20 : Int), ())), ())⟩)
  (.br (decide ((3 : Int) < a0))
    (.ok ⟨mW, (((0 : Int), ((20 : Int), ())), ())⟩)
    (gd [inB a0 4, decide (Int.toNat a0 + 0 < 4)] (.ok ⟨mW, ((List.getD [(9 : Int), (11 : Int), (32 : Int), (32 : Int)] (Int.toNat a0 + 0) (0 : Int), ((0 : Int), ())), ())⟩))))
theorem alu (x : zm) (Q : gl.Y → Prop) : wpf te Ev ax 1000 Try.f106 (gl.inp.inj x).tm (gl.inp.inj x).hp (fnK gl Ma Q) (fun _ _ => False) = (Qu (x.1.1)).wpR Q := by kernel_rfl
theorem Xg (pre : zm → Bool) (F : zm → OT gl.Y) (hF : ∀ (x : zm) oy, pre x = true → (F x).run = some oy → (Qu (x.1.1)).run = some oy) : ab Try.prog 106 (gl.aK pre F) :=
  aD av yO SG (f := 106) (fn := Try.f106) (c := ak Try.f106) (by kernel_rfl) (by kernel_rfl) (by kernel_rfl) (S := gl) (k := 0) (by kernel_rfl) (fun R hR => ae) (n := 1000) (sel := Ma) (fun v o h => by cases h; rfl) (pre := pre) (F := F) (T := fun x => Qu (x.1.1)) (fun x Q => alu x Q) hF
def Mb (_ : zm) : Bool := true
def acn (x : zm) : OT gl.Y := .br (aj x.1.1) (.ok ⟨mW, (((bQ x.1.1.toNat).2.1, ((0 : Int), ())), ())⟩) (.ok ⟨mW, (((0 : Int), ((20 : Int), ())), ())⟩)
theorem Uu : ab Try.prog 106 (gl.aK Mb acn) := Xg _ _ fun x oy _ ho => by
  rw [← ho]
  clear ho
  obtain ⟨⟨s, ⟨⟩⟩, ⟨⟩⟩ := x
  rcases (Bool.eq_false_or_eq_true (aj s)).symm with hs | hs
  · refine Eq.trans ?_ (OT.ap (b := aj s) hs).symm
    by_cases h0 : s < 0
    · exact OT.ao (decide_eq_true h0)
    · refine (OT.ap (decide_eq_false h0)).trans (OT.ao (decide_eq_true ?_))
      show (3 : Int) < s
      simp only [aj, Bool.and_eq_false_iff, decide_eq_false_iff_not] at hs
      omega
  · rcases cu hs with h | h | h | h
    all_goals
      have h : s = _ := h
      subst h
      rfl
def xr : cI := (gl.aK Mb acn)
theorem Qt : ab Try.prog 106 xr := Uu
theorem Qs : aJ xr := aA
def EC : Env := az 106 xr Ev
theorem yU : aV Try.prog EC := ag Qt yO
theorem zY : aw EC := ac Qs zS
theorem SK : bg Try.prog te EC := aN follows av yU zY
def iM : aq := ⟨[.val false .int], [], true, 0, false⟩
abbrev Gf : Type := ((Int) × Unit) × (Unit)
def uD : ay := ⟨[.val false .u64], [], false⟩
def LU : SV → Option ay := fun _ => some uD
def Qd (a0 : Int) : OT iM.Y :=
  (.br (a0 == (0 : Int))
  (.ok ⟨uD, (((16513537 : UInt64), ()), ())⟩)
  (.ok ⟨uD, (((16521217 : UInt64), ()), ())⟩))
theorem alp (x : Gf) (Q : iM.Y → Prop) : wpf te EC ax 1000 Try.f75 (iM.inp.inj x).tm (iM.inp.inj x).hp (fnK iM LU Q) (fun _ _ => False) = (Qd (x.1.1)).wpR Q := by kernel_rfl
theorem W4 (pre : Gf → Bool) (F : Gf → OT iM.Y) (hF : ∀ (x : Gf) oy, pre x = true → (F x).run = some oy → (Qd (x.1.1)).run = some oy) : ab Try.prog 75 (iM.aK pre F) :=
  aD av yU SK (f := 75) (fn := Try.f75) (c := ak Try.f75) (by kernel_rfl) (by kernel_rfl) (by kernel_rfl) (S := iM) (k := 0) (by kernel_rfl) (fun R hR => ae) (n := 1000) (sel := LU) (fun v o h => by cases h; rfl) (pre := pre) (F := F) (T := fun x => Qd (x.1.1)) (fun x Q => alp x Q) hF
def KP (s : Int) : UInt64 := cond (s == 0) 16513537 16521217
def LV (_ : Gf) : Bool := true
def ab9 (x : Gf) : OT iM.Y := .ok ⟨uD, ((KP x.1.1, ()), ())⟩
theorem agX : ab Try.prog 75 (iM.aK LV ab9) := W4 _ _ fun x oy _ ho => by
  rw [← ho]
  clear ho
  obtain ⟨⟨s, ⟨⟩⟩, ⟨⟩⟩ := x
  show _ = (OT.ok ⟨uD, ((KP s, ()), ())⟩ : OT iM.Y).run
  unfold KP
  rcases (Bool.eq_false_or_eq_true (s == 0)).symm with h | h
  · rw [h]; exact OT.ap h
  · rw [h]; exact OT.ao h
def xi : cI := (iM.aK LV ab9)
theorem Qc : ab Try.prog 75 xi := agX
theorem Qb : aJ xi := aA
def yP : Env := az 75 xi EC
theorem rm : aV Try.prog yP := ag Qc yU
theorem zT : aw yP := ac Qb zY
theorem Ew : bg Try.prog te yP := aN follows av rm zT
def dJ : aq := ⟨[.val true .elem, .val true .elem], [], true, 0, false⟩
abbrev qx : Type := ((aa) × (aa) × Unit) × (Unit)
def lI : Shape := ⟨24, [(2, .ptr 0 0 0), (3, .ptr 1 0 0), (5, .val false .int)], [(0, .row .u64), (1, .row .u64)], 0, true⟩
abbrev aT : Type := ((Unit) × (Unit) × (Int) × Unit) × ((List (UInt64)) × (List (UInt64)) × Unit)
def iy : Shape := ⟨24, [(4, .val false .bool)], [], 0, true⟩
abbrev gj : Type := ((Bool) × Unit) × (Unit)
def kI : Shape := ⟨24, [], [], 0, true⟩
abbrev gk : Type := (Unit) × (Unit)
def Gn : SE → Option Shape := ku [(0, kI)] (some iy)
def Xf (a5 : Int) (c0 : List (UInt64)) (c1 : List (UInt64)) : OT (Sum aT aO) :=
  let z0 : Bool := inB a5 4
  let z1 : Bool := decide (Int.toNat a5 + 0 < List.length c0)
  let z2 : Bool := decide (Int.toNat a5 + 0 < List.length c1)
  let z3 : UInt64 := List.getD c0 (Int.toNat a5 + 0) (0 : UInt64)
  let z4 : UInt64 := List.getD c1 (Int.toNat a5 + 0) (0 : UInt64)
  (.br (decide ((0 : Int) ≤ a5))
  (gd [z0, z1, z0, z2] (.br (!z3 == z4)
    (gd [z0, z1, z0, z2] (.ok (.inr ⟨(.ret, iy), ((decide (z3 < z4), ()), ())⟩)))
    (gd [inR (a5 - (1 : Int))] (.ok (.inl (((), ((), (a5 - (1 : Int), ()))), (c0, (c1, ()))))))))
  (.ok (.inr ⟨(.exit 0, kI), ((), ())⟩)))
def fc (s : aT) : OT (Sum aT aO) := Xf (s.1.2.2.1) (s.2.1) (s.2.2.1)
theorem Xc (s : aT) (Q : Sum aT aO → Prop) : wps te yP ax 1000 (bG (ak Try.f86) 0) (lI.inj s) (cU lI Gn (Q : Sum lI.T aO → Prop)) = (fc s).wpR Q := by kernel_rfl
def lJ (g0_r : aT → gj) (c0_r : aT → Bool) (g0_0 : aT → gk) (s : aT) : OT aO := (.br (c0_r s) (.ok ⟨(.ret, iy), g0_r s⟩) (.ok ⟨(.exit 0, kI), g0_0 s⟩))
def jl : ay := ⟨[.val false .bool], [], false⟩
def B9 : SV → Option ay := fun _ => some jl
def Cc (ok0 : aT → Bool) (g0_r : aT → gj) (c0_r : aT → Bool) (g0_0 : aT → gk) (a0 : aa) (a1 : aa) : OT dJ.Y :=
  let z0 : (PUnit × PUnit × Int × PUnit) × List UInt64 × List UInt64 × PUnit := (((), (), (3 : Int), ()), [a0.w0, a0.w1, a0.w2, a0.w3], [a1.w0, a1.w1, a1.w2, a1.w3], ())
  (gd [ok0 z0] (.br (c0_r z0)
  (.ok ⟨jl, (((g0_r z0).fst.fst, ()), ())⟩)
  (.ok ⟨jl, ((false, ()), ())⟩)))
theorem ack (ok0 : aT → Bool) (g0_r : aT → gj) (c0_r : aT → Bool) (g0_0 : aT → gk) (x : qx) (Q : dJ.Y → Prop) : wpf te yP (bp 0 (dv lI 0 ok0 (lJ g0_r c0_r g0_0)) ax) 1000 Try.f86 (dJ.inp.inj x).tm (dJ.inp.inj x).hp (fnK dJ B9 Q) (fun _ _ => False) = (Cc ok0 g0_r c0_r g0_0 (x.1.1) (x.1.2.1)).wpR Q := by kernel_rfl
theorem L6 (ok0 : aT → Bool) (g0_r : aT → gj) (c0_r : aT → Bool) (g0_0 : aT → gk) (h0 : ∀ s : aT, ok0 s = true → ∃ m e, au (fc) m s = some e ∧ (lJ g0_r c0_r g0_0 s).run = some e) (pre : qx → Bool) (F : qx → OT dJ.Y) (hF : ∀ (x : qx) oy, pre x = true → (F x).run = some oy → (Cc ok0 g0_r c0_r g0_0 (x.1.1) (x.1.2.1)).run = some oy) : ab Try.prog 86 (dJ.aK pre F) :=
  aD av rm Ew (f := 86) (fn := Try.f86) (c := ak Try.f86) (by kernel_rfl) (by kernel_rfl) (by kernel_rfl) (S := dJ) (k := 0) (by kernel_rfl) (fun R hR => (aI (c := (ak Try.f86)) (by kernel_rfl) (id := 0) (by kernel_rfl) (bw av rm Ew (sh := lI) hR (xs := Gn) (aH (by kernel_rfl) (by kernel_rfl) hR) aW ae (n := 1000) (T := fc) (fun s Q => Xc s Q) (ok := ok0) (f := lJ g0_r c0_r g0_0) h0) ae)) (n := 1000) (sel := B9) (fun v o h => by cases h; rfl) (pre := pre) (F := F) (T := fun x => Cc ok0 g0_r c0_r g0_0 (x.1.1) (x.1.2.1)) (fun x Q => ack ok0 g0_r c0_r g0_0 x Q) hF
theorem GX {x y N M : Nat} (hx : x < 18446744073709551616) (hy : y < 18446744073709551616) (h : ¬ N = M) : (x + 18446744073709551616 * N < y + 18446744073709551616 * M ↔ N < M) ∧ ¬ x + 18446744073709551616 * N = y + 18446744073709551616 * M := by
  omega
theorem ado {x y N : Nat} : (x + 18446744073709551616 * N < y + 18446744073709551616 * N ↔ x < y) ∧ (¬ x = y → ¬ x + 18446744073709551616 * N = y + 18446744073709551616 * N) := by
  omega
theorem Ke {n m : Nat} {x y : UInt64} (h : n < m ↔ x.toNat < y.toNat) : decide (x < y) = Nat.blt n m := by
  have h1 : Nat.blt n m = true ↔ n < m := ⟨cL, fun h => Nat.ble_eq_true_of_le h⟩
  rw [Bool.eq_iff_iff, decide_eq_true_iff, h1, h, UInt64.lt_iff_toNat_lt]
theorem QG {x y : UInt64} (h : ¬ x = y) : ¬ x.toNat = y.toNat := fun e => h (UInt64.toNat_inj.1 e)
def dh (a b : aa) (i : Int) : aT := (((), (), i, ()), (lst a, lst b, ()))
theorem re (a b : aa) (k : Nat) (hk : k < 4) (h : (lst a).getD k 0 = (lst b).getD k 0) : (fc (dh a b (k : Int))).run = some (.inl (dh a b ((k : Int) - 1))) := by
  refine (OT.ao (decide_eq_true (by dsimp only [dh]; omega))).trans ((ai ?_).trans ((OT.ap ?_).trans ((ai ?_).trans rfl)))
  · simp only [dh, Int.toNat_natCast, Nat.add_zero, cV, List.all_cons, List.all_nil, Bool.and_true, Bool.and_eq_true]
    exact ⟨bJ (by omega), decide_eq_true hk, bJ (by omega), decide_eq_true hk⟩
  · simp only [dh, Int.toNat_natCast, Nat.add_zero, h, beq_self_eq_true, Bool.not_true]
  · simp only [dh, List.all_cons, List.all_nil, Bool.and_true]
    exact bC (by omega)
theorem kT (a b : aa) (k : Nat) (hk : k < 4) (h : ¬ (lst a).getD k 0 = (lst b).getD k 0) : (fc (dh a b (k : Int))).run = some (.inr ⟨(.ret, iy), ((decide ((lst a).getD k 0 < (lst b).getD k 0), ()), ())⟩) := by
  refine (OT.ao (decide_eq_true (by dsimp only [dh]; omega))).trans ((ai ?_).trans ((OT.ao ?_).trans ((ai ?_).trans ?_)))
  · simp only [dh, Int.toNat_natCast, Nat.add_zero, cV, List.all_cons, List.all_nil, Bool.and_true, Bool.and_eq_true]
    exact ⟨bJ (by omega), decide_eq_true hk, bJ (by omega), decide_eq_true hk⟩
  · simp only [dh, Int.toNat_natCast, Nat.add_zero, beq_eq_false_iff_ne.2 h, Bool.not_false]
  · simp only [dh, Int.toNat_natCast, Nat.add_zero, cV, List.all_cons, List.all_nil, Bool.and_true, Bool.and_eq_true]
    exact ⟨bJ (by omega), decide_eq_true hk, bJ (by omega), decide_eq_true hk⟩
  · simp only [dh, Int.toNat_natCast, Nat.add_zero]
    rfl
def Cb (s : aT) : Bool := decide (s.1.2.2.1 = 3 ∧ s.2.1.length = 4 ∧ s.2.2.1.length = 4)
def xo (s : aT) : gj := ((Nat.blt (elemOf s.2.1).nat (elemOf s.2.2.1).nat, ()), ())
def jT (s : aT) : Bool := !eqE (elemOf s.2.1) (elemOf s.2.2.1)
def xp (_ : aT) : gk := ((), ())
theorem vr {a b : aa} (h : ¬ a = b) {r : Bool} (hr : r = Nat.blt a.nat b.nat) (hm : ∃ m, au fc m (dh a b 3) = some ⟨(.ret, iy), ((r, ()), ())⟩) :
    ∃ m e, au fc m (dh a b 3) = some e ∧ (lJ xo jT xp (dh a b 3)).run = some e := by
  obtain ⟨m, hm⟩ := hm
  refine ⟨m, _, hm, ?_⟩
  have hc : jT (dh a b 3) = true := by
    show (!eqE a b) = true
    rw [Bool.eq_false_iff.2 fun e => h (li.1 e)]
    rfl
  subst hr
  exact OT.ao hc
theorem Xe : ∀ s : aT, Cb s = true → ∃ m e, au fc m s = some e ∧ (lJ xo jT xp s).run = some e := by
  rintro ⟨⟨⟨⟩, ⟨⟩, i, ⟨⟩⟩, ⟨l1, l2, ⟨⟩⟩⟩ h
  have h' := of_decide_eq_true h
  dsimp only at h'
  obtain ⟨rfl, h1, h2⟩ := h'
  obtain ⟨a, rfl⟩ : ∃ a, l1 = lst a := ⟨elemOf l1, (bc h1).symm⟩
  obtain ⟨b, rfl⟩ : ∃ a, l2 = lst a := ⟨elemOf l2, (bc h2).symm⟩
  have ha0 := a.w0.toNat_lt
  have hb0 := b.w0.toNat_lt
  have ha1 := a.w1.toNat_lt
  have hb1 := b.w1.toNat_lt
  have ha2 := a.w2.toNat_lt
  have hb2 := b.w2.toNat_lt
  by_cases h3 : a.w3 = b.w3
  · have s3 := re a b 3 (by omega) h3
    by_cases h2 : a.w2 = b.w2
    · have s2 := re a b 2 (by omega) h2
      by_cases h1 : a.w1 = b.w1
      · have s1 := re a b 1 (by omega) h1
        by_cases h0 : a.w0 = b.w0
        · have s0 := re a b 0 (by omega) h0
          have e : a = b := by cases a; cases b; simp_all
          have sx : (fc (dh a b (((0 : Nat) : Int) - 1))).run = some (.inr ⟨(.exit 0, kI), ((), ())⟩) := OT.ap (decide_eq_false (by dsimp only [dh]; omega))
          refine ⟨_, _, aM s3 (aM s2 (aM s1 (aM s0 (aR sx)))), ?_⟩
          have hc : jT (((), (), 3, ()), (lst a, lst b, ())) = false := by
            show (!eqE a b) = false
            rw [e, JR]
            rfl
          exact OT.ap hc
        · refine vr (fun e => h0 (by rw [e])) (Ke ?_) ⟨_, aM s3 (aM s2 (aM s1 (aR (kT a b 0 (by omega) h0))))⟩
          show a.nat < b.nat ↔ a.w0.toNat < b.w0.toNat
          unfold Sx.aa.nat
          rw [h3, h2, h1]
          exact ado.1
      · refine vr (fun e => h1 (by rw [e])) (Ke ?_) ⟨_, aM s3 (aM s2 (aR (kT a b 1 (by omega) h1)))⟩
        show a.nat < b.nat ↔ a.w1.toNat < b.w1.toNat
        unfold Sx.aa.nat
        rw [h3, h2]
        have k := ado (x := a.w1.toNat) (y := b.w1.toNat) (N := b.w2.toNat + 18446744073709551616 * b.w3.toNat)
        exact (GX ha0 hb0 (k.2 (QG h1))).1.trans k.1
    · refine vr (fun e => h2 (by rw [e])) (Ke ?_) ⟨_, aM s3 (aR (kT a b 2 (by omega) h2))⟩
      show a.nat < b.nat ↔ a.w2.toNat < b.w2.toNat
      unfold Sx.aa.nat
      rw [h3]
      have k := ado (x := a.w2.toNat) (y := b.w2.toNat) (N := b.w3.toNat)
      have k1 := GX ha1 hb1 (k.2 (QG h2))
      exact (GX ha0 hb0 k1.2).1.trans (k1.1.trans k.1)
  · refine vr (fun e => h3 (by rw [e])) (Ke ?_) ⟨_, aR (kT a b 3 (by omega) h3)⟩
    show a.nat < b.nat ↔ a.w3.toNat < b.w3.toNat
    unfold Sx.aa.nat
    have k2 := GX ha2 hb2 (QG h3)
    have k1 := GX ha1 hb1 k2.2
    exact (GX ha0 hb0 k1.2).1.trans (k1.1.trans k2.1)
def Ca (_ : qx) : Bool := true
def L7 (x : qx) : OT dJ.Y := .ok ⟨jl, ((Nat.blt x.1.1.nat x.1.2.1.nat, ()), ())⟩
theorem Xd : ab Try.prog 86 (dJ.aK Ca L7) := L6 Cb xo jT xp Xe _ _ fun x oy _ ho => by
  rw [← ho]
  clear ho
  obtain ⟨⟨a, b, ⟨⟩⟩, ⟨⟩⟩ := x
  refine (ai ?_).trans ?_
  · simp only [List.all_cons, List.all_nil, Bool.and_true]
    exact decide_eq_true ⟨rfl, rfl, rfl⟩
  · rcases (Bool.eq_false_or_eq_true (eqE a b)).symm with h | h
    · have hc : jT (((), (), 3, ()), (lst a, lst b, ())) = true := by
        show (!eqE a b) = true
        rw [h]
        rfl
      exact OT.ao hc
    · have hc : jT (((), (), 3, ()), (lst a, lst b, ())) = false := by
        show (!eqE a b) = false
        rw [h]
        rfl
      refine (OT.ap hc).trans ?_
      have e : Nat.blt a.nat b.nat = false := by
        rw [li.1 h]
        cases hb : Nat.blt b.nat b.nat
        · rfl
        · exact absurd (cL hb) (Nat.lt_irrefl _)
      show (OT.ok ⟨jl, ((false, ()), ())⟩ : OT dJ.Y).run = (OT.ok ⟨jl, ((Nat.blt a.nat b.nat, ()), ())⟩ : OT dJ.Y).run
      rw [e]
def oE : cI := (dJ.aK Ca L7)
theorem II : ab Try.prog 86 oE := Xd
theorem IH : aJ oE := aA
def mB : Env := az 86 oE yP
theorem kW : aV Try.prog mB := ag II rm
theorem rT : aw mB := ac IH zT
theorem vN : bg Try.prog te mB := aN follows av kW rT
def eR : aq := ⟨[.val true .elem, .val true .elem], [], true, 0, false⟩
abbrev qt : Type := ((aa) × (aa) × Unit) × (Unit)
def lE : Shape := ⟨39, [(2, .ptr 0 0 0), (3, .ptr 1 0 0), (4, .ptr 2 0 0), (5, .ptr 3 0 0), (6, .val false .u64), (7, .val false .int)], [(0, .row .u64), (1, .row .u64), (2, .row .u64), (3, .row .u64)], 0, true⟩
abbrev bD : Type := ((Unit) × (Unit) × (Unit) × (Unit) × (UInt64) × (Int) × Unit) × ((List (UInt64)) × (List (UInt64)) × (List (UInt64)) × (List (UInt64)) × Unit)
def kH : Shape := ⟨39, [(4, .ptr 0 0 0), (5, .ptr 1 0 0)], [(0, .row .u64), (1, .row .u64)], 0, true⟩
abbrev gg : Type := ((Unit) × (Unit) × Unit) × ((List (UInt64)) × (List (UInt64)) × Unit)
def Gd : SE → Option Shape := ku [(0, kH)] none
def W3 (a6 : UInt64) (a7 : Int) (c0 : List (UInt64)) (c1 : List (UInt64)) (c2 : List (UInt64)) (c3 : List (UInt64)) : OT (Sum bD aO) :=
  let z0 : Bool := inB a7 4
  let z1 : Bool := decide (Int.toNat a7 + 0 < List.length c0)
  let z2 : Bool := decide (Int.toNat a7 + 0 < List.length c1)
  let z3 : UInt64 := List.getD c0 (Int.toNat a7 + 0) (0 : UInt64)
  let z4 : UInt64 := List.getD c1 (Int.toNat a7 + 0) (0 : UInt64)
  let z5 : Bool := inR (a7 + (1 : Int))
  let z6 : UInt64 := z3 - z4
  let z7 : List UInt64 := List.set c3 (Int.toNat a7 + 0) (z6 - a6)
  (.br (decide (a7 < (4 : Int)))
  (gd [z0, z1, z0, z2, z0, decide (Int.toNat a7 + 0 < List.length c3), z0, z1, z0, z2] (.br (decide (z3 < z4))
    (gd [z5] (.ok (.inl (((), ((), ((), ((), ((1 : UInt64), (a7 + (1 : Int), ())))))), (c0, (c1, (c2, (z7, ()))))))))
    (.br (decide (z6 < a6))
      (gd [z5] (.ok (.inl (((), ((), ((), ((), ((1 : UInt64), (a7 + (1 : Int), ())))))), (c0, (c1, (c2, (z7, ()))))))))
      (gd [z5] (.ok (.inl (((), ((), ((), ((), ((0 : UInt64), (a7 + (1 : Int), ())))))), (c0, (c1, (c2, (z7, ())))))))))))
  (.ok (.inr ⟨(.exit 0, kH), (((), ((), ())), (c2, (c3, ())))⟩)))
def lF (s : bD) : OT (Sum bD aO) := W3 (s.1.2.2.2.2.1) (s.1.2.2.2.2.2.1) (s.2.1) (s.2.2.1) (s.2.2.2.1) (s.2.2.2.2.1)
theorem W0 (s : bD) (Q : Sum bD aO → Prop) : wps te mB ax 1000 (bG (ak Try.f87) 0) (lE.inj s) (cU lE Gd (Q : Sum lE.T aO → Prop)) = (lF s).wpR Q := by kernel_rfl
def qs (g0_0 : bD → gg) (s : bD) : OT aO := (.ok ⟨(.exit 0, kH), g0_0 s⟩)
def xh : ay := ⟨[.val true .elem], [], false⟩
def BW : SV → Option ay := fun _ => some xh
def B0 (ok0 : bD → Bool) (g0_0 : bD → gg) (a0 : aa) (a1 : aa) : OT eR.Y :=
  let z0 : (PUnit × PUnit × PUnit × PUnit × UInt64 × Int × PUnit) × List UInt64 × List UInt64 × List UInt64 × List UInt64 × PUnit := (((), (), (), (), (0 : UInt64), (0 : Int), ()), [a0.w0, a0.w1, a0.w2, a0.w3], [a1.w0, a1.w1, a1.w2, a1.w3], [(0 : UInt64), (0 : UInt64), (0 : UInt64), (0 : UInt64)], [(0 : UInt64), (0 : UInt64), (0 : UInt64), (0 : UInt64)], ())
  let z1 := (g0_0 z0).snd
  let z2 := z1.snd.fst
  let z3 := z1.fst
  let z4 : List UInt64 := lay z3 z2 4 (0 : UInt64)
  (gd [ok0 z0, decide (4 ≤ List.length z2), decide ((4 / 1 : Nat) + 0 ≤ List.length z3), decide (4 ≤ List.length z4)] (.ok ⟨xh, (({ w0 := List.getD z4 0 0, w1 := List.getD z4 1 0, w2 := List.getD z4 2 0, w3 := List.getD z4 3 0 }, ()), ())⟩))
theorem ab8 (ok0 : bD → Bool) (g0_0 : bD → gg) (x : qt) (Q : eR.Y → Prop) : wpf te mB (bp 0 (dv lE 0 ok0 (qs g0_0)) ax) 1000 Try.f87 (eR.inp.inj x).tm (eR.inp.inj x).hp (fnK eR BW Q) (fun _ _ => False) = (B0 ok0 g0_0 (x.1.1) (x.1.2.1)).wpR Q := by kernel_rfl
theorem LS (ok0 : bD → Bool) (g0_0 : bD → gg) (h0 : ∀ s : bD, ok0 s = true → ∃ m e, au (lF) m s = some e ∧ (qs g0_0 s).run = some e) (pre : qt → Bool) (F : qt → OT eR.Y) (hF : ∀ (x : qt) oy, pre x = true → (F x).run = some oy → (B0 ok0 g0_0 (x.1.1) (x.1.2.1)).run = some oy) : ab Try.prog 87 (eR.aK pre F) :=
  aD av kW vN (f := 87) (fn := Try.f87) (c := ak Try.f87) (by kernel_rfl) (by kernel_rfl) (by kernel_rfl) (S := eR) (k := 0) (by kernel_rfl) (fun R hR => (aI (c := (ak Try.f87)) (by kernel_rfl) (id := 0) (by kernel_rfl) (bw av kW vN (sh := lE) hR (xs := Gd) (aH (by kernel_rfl) (by kernel_rfl) hR) aW ae (n := 1000) (T := lF) (fun s Q => W0 s Q) (ok := ok0) (f := qs g0_0) h0) ae)) (n := 1000) (sel := BW) (fun v o h => by cases h; rfl) (pre := pre) (F := F) (T := fun x => B0 ok0 g0_0 (x.1.1) (x.1.2.1)) (fun x Q => ab8 ok0 g0_0 x Q) hF
theorem XG {x y c : UInt64} (hc : c.toNat ≤ 1) : x - y - c = mK x y c := by
  have hx := x.toNat_lt
  have hy := y.toNat_lt
  unfold mK
  rw [← UInt64.toNat_inj, UInt64.toNat_sub, UInt64.toNat_sub, UInt64.toNat_ofNat']
  omega
theorem ahA {x y c : UInt64} (h : x < y) : KN x y c = 1 := by
  have h := UInt64.lt_iff_toNat_lt.1 h
  rw [← UInt64.toNat_inj, tX, if_pos (by omega)]
  rfl
theorem ahz {x y c : UInt64} (h : ¬ x < y) (hc : x - y < c) : KN x y c = 1 := by
  have hx := x.toNat_lt
  have h : ¬ x.toNat < y.toNat := fun e => h (UInt64.lt_iff_toNat_lt.2 e)
  have hc := UInt64.lt_iff_toNat_lt.1 hc
  rw [UInt64.toNat_sub] at hc
  rw [← UInt64.toNat_inj, tX, if_pos (by omega)]
  rfl
theorem ahy {x y c : UInt64} (h : ¬ x < y) (hc : ¬ x - y < c) : KN x y c = 0 := by
  have hx := x.toNat_lt
  have h : ¬ x.toNat < y.toNat := fun e => h (UInt64.lt_iff_toNat_lt.2 e)
  have hc : ¬ (x - y).toNat < c.toNat := fun e => hc (UInt64.lt_iff_toNat_lt.2 e)
  rw [UInt64.toNat_sub] at hc
  rw [← UInt64.toNat_inj, tX, if_neg (by omega)]
  rfl
def BZ (s : bD) : Bool := decide (s.1.2.2.2.2.1 = 0 ∧ s.1.2.2.2.2.2.1 = 0 ∧ s.2.1.length = 4 ∧ s.2.2.1.length = 4 ∧ s.2.2.2.2.1 = [0, 0, 0, 0])
def Ge (s : bD) : gg := (((), (), ()), (s.2.2.2.1, (upto (Fs s.2.1 s.2.2.1) ([0, 0, 0, 0], 0) 4).1, ()))
theorem W2 : ∀ s : bD, BZ s = true → ∃ m e, au lF m s = some e ∧ (qs Ge s).run = some e := by
  rintro ⟨⟨⟨⟩, ⟨⟩, ⟨⟩, ⟨⟩, c, i, ⟨⟩⟩, ⟨c0, c1, c2, c3, ⟨⟩⟩⟩ h
  have h' := of_decide_eq_true h
  dsimp only at h'
  obtain ⟨rfl, rfl, h0, h1, rfl⟩ := h'
  have := (bF (T := lF) (fun k s => ((((), (), (), (), s.2, (k : Int), ()), (c0, c1, c2, s.1, ())) : bD)) (Fs c0 c1)
    (fun s => (⟨(.exit 0, kH), (((), (), ()), (c2, s.1, ()))⟩ : aO)) 4 ([0, 0, 0, 0], 0) (fun _ s => s.1.length = 4 ∧ s.2.toNat ≤ 1) ⟨rfl, by decide⟩ (fun k s hk hs => ⟨?_, ?_⟩) (fun s hs => ?_)).1
  · obtain ⟨m, hm⟩ := this
    exact ⟨m, _, hm, rfl⟩
  · obtain ⟨o, c⟩ := s
    dsimp only at hs
    refine (OT.ao (decide_eq_true (by dsimp only; omega))).trans ((ai ?_).trans ?_)
    · simp only [Int.toNat_natCast, Nat.add_zero, h0, h1, hs.1, List.all_cons, List.all_nil, Bool.and_true, Bool.and_eq_true]
      exact ⟨bJ (by omega), decide_eq_true (by omega), bJ (by omega), decide_eq_true (by omega), bJ (by omega), decide_eq_true (by omega), bJ (by omega), decide_eq_true (by omega), bJ (by omega), decide_eq_true (by omega)⟩
    · have hi : ∀ z, (gd [inR ((k : Int) + 1)] z : OT (Sum bD aO)).run = z.run := fun z => ai (by simp only [List.all_cons, List.all_nil, Bool.and_true]; exact bC (by omega))
      have hw := XG (x := c0.getD k 0) (y := c1.getD k 0) hs.2
      by_cases hx : c0.getD k 0 < c1.getD k 0
      · have hk1 := ahA (c := c) hx
        refine (OT.ao (decide_eq_true ?_)).trans ((hi _).trans ?_)
        · simp only [Int.toNat_natCast, Nat.add_zero]; exact hx
        · simp only [OT.jz, Int.toNat_natCast, Nat.add_zero, Fs, hw, hk1]
          rfl
      · refine (OT.ap (decide_eq_false ?_)).trans ?_
        · simp only [Int.toNat_natCast, Nat.add_zero]; exact hx
        · by_cases hd : c0.getD k 0 - c1.getD k 0 < c
          · have hk2 := ahz hx hd
            refine (OT.ao (decide_eq_true ?_)).trans ((hi _).trans ?_)
            · simp only [Int.toNat_natCast, Nat.add_zero]; exact hd
            · simp only [OT.jz, Int.toNat_natCast, Nat.add_zero, Fs, hw, hk2]
              rfl
          · have hk3 := ahy hx hd
            refine (OT.ap (decide_eq_false ?_)).trans ((hi _).trans ?_)
            · simp only [Int.toNat_natCast, Nat.add_zero]; exact hd
            · simp only [OT.jz, Int.toNat_natCast, Nat.add_zero, Fs, hw, hk3]
              rfl
  · exact ⟨by simp only [Fs, List.length_set]; exact hs.1, wG⟩
  · exact OT.ap (decide_eq_false (by dsimp only; omega))
def BX (_ : qt) : Bool := true
def B1 (x : qt) : OT eR.Y := .ok ⟨xh, (((lb x.1.1 x.1.2.1).1, ()), ())⟩
theorem W1 : ab Try.prog 87 (eR.aK BX B1) := LS BZ Ge W2 _ _ fun x oy hp ho => by
  rw [← ho]
  clear ho
  obtain ⟨⟨a, b, ⟨⟩⟩, ⟨⟩⟩ := x
  obtain ⟨_, hw⟩ := FN a b
  refine (ai ?_).trans ?_
  · simp only [List.all_cons, List.all_nil, Bool.and_true, Bool.and_eq_true]
    exact ⟨rfl, rfl, rfl, rfl⟩
  · simp only [B1, hw]
    rfl
def oA : cI := (eR.aK BX B1)
theorem ID : ab Try.prog 87 oA := W1
theorem IC : aJ oA := aA
def mA : Env := az 87 oA mB
theorem kV : aV Try.prog mA := ag ID kW
theorem rS : aw mA := ac IC rT
theorem vK : bg Try.prog te mA := aN follows av kV rS
def ga : aq := ⟨[.val true .elem, .val true .elem], [], true, 0, false⟩
abbrev xa : Type := ((aa) × (aa) × Unit) × (Unit)
def ow : Shape := ⟨39, [(2, .ptr 0 0 0), (3, .ptr 1 0 0), (4, .ptr 2 0 0), (5, .ptr 3 0 0), (6, .val false .u64), (7, .val false .int)], [(0, .row .u64), (1, .row .u64), (2, .row .u64), (3, .row .u64)], 0, true⟩
abbrev bV : Type := ((Unit) × (Unit) × (Unit) × (Unit) × (UInt64) × (Int) × Unit) × ((List (UInt64)) × (List (UInt64)) × (List (UInt64)) × (List (UInt64)) × Unit)
def mS : Shape := ⟨39, [(4, .ptr 0 0 0), (5, .ptr 1 0 0)], [(0, .row .u64), (1, .row .u64)], 0, true⟩
abbrev iu : Type := ((Unit) × (Unit) × Unit) × ((List (UInt64)) × (List (UInt64)) × Unit)
def LG : SE → Option Shape := ku [(0, mS)] none
def abX (a6 : UInt64) (a7 : Int) (c0 : List (UInt64)) (c1 : List (UInt64)) (c2 : List (UInt64)) (c3 : List (UInt64)) : OT (Sum bV aO) :=
  let z0 : Bool := inB a7 4
  let z1 : Bool := decide (Int.toNat a7 + 0 < List.length c0)
  let z2 : UInt64 := List.getD c0 (Int.toNat a7 + 0) (0 : UInt64)
  let z3 : UInt64 := z2 + List.getD c1 (Int.toNat a7 + 0) (0 : UInt64)
  let z4 : Bool := inR (a7 + (1 : Int))
  let z5 : List UInt64 := List.set c3 (Int.toNat a7 + 0) (z3 + a6)
  (.br (decide (a7 < (4 : Int)))
  (gd [z0, z1, z0, decide (Int.toNat a7 + 0 < List.length c1), z0, decide (Int.toNat a7 + 0 < List.length c3), z0, z1] (.br (decide (z3 < z2))
    (gd [z4] (.ok (.inl (((), ((), ((), ((), ((1 : UInt64), (a7 + (1 : Int), ())))))), (c0, (c1, (c2, (z5, ()))))))))
    (gd [z0, decide (Int.toNat a7 + 0 < List.length z5)] (.br (decide (List.getD z5 (Int.toNat a7 + 0) (0 : UInt64) < z3))
      (gd [z4] (.ok (.inl (((), ((), ((), ((), ((1 : UInt64), (a7 + (1 : Int), ())))))), (c0, (c1, (c2, (z5, ()))))))))
      (gd [z4] (.ok (.inl (((), ((), ((), ((), ((0 : UInt64), (a7 + (1 : Int), ())))))), (c0, (c1, (c2, (z5, ()))))))))))))
  (.ok (.inr ⟨(.exit 0, mS), (((), ((), ())), (c2, (c3, ())))⟩)))
def ox (s : bV) : OT (Sum bV aO) := abX (s.1.2.2.2.2.1) (s.1.2.2.2.2.2.1) (s.2.1) (s.2.2.1) (s.2.2.2.1) (s.2.2.2.2.1)
theorem abU (s : bV) (Q : Sum bV aO → Prop) : wps te mA ax 1000 (bG (ak Try.f76) 0) (ow.inj s) (cU ow LG (Q : Sum ow.T aO → Prop)) = (ox s).wpR Q := by kernel_rfl
def uz (g0_0 : bV → iu) (s : bV) : OT aO := (.ok ⟨(.exit 0, mS), g0_0 s⟩)
def BQ : ay := ⟨[.val true .elem], [], false⟩
def F8 : SV → Option ay := fun _ => some BQ
def Iw (ok0 : bV → Bool) (g0_0 : bV → iu) (a0 : aa) (a1 : aa) : OT ga.Y :=
  let z0 : (PUnit × PUnit × PUnit × PUnit × UInt64 × Int × PUnit) × List UInt64 × List UInt64 × List UInt64 × List UInt64 × PUnit := (((), (), (), (), (0 : UInt64), (0 : Int), ()), [a0.w0, a0.w1, a0.w2, a0.w3], [a1.w0, a1.w1, a1.w2, a1.w3], [(0 : UInt64), (0 : UInt64), (0 : UInt64), (0 : UInt64)], [(0 : UInt64), (0 : UInt64), (0 : UInt64), (0 : UInt64)], ())
  let z1 := (g0_0 z0).snd
  let z2 := z1.snd.fst
  let z3 := z1.fst
  let z4 : List UInt64 := lay z3 z2 4 (0 : UInt64)
  (gd [ok0 z0, decide (4 ≤ List.length z2), decide ((4 / 1 : Nat) + 0 ≤ List.length z3), decide (4 ≤ List.length z4)] (.ok ⟨BQ, (({ w0 := List.getD z4 0 0, w1 := List.getD z4 1 0, w2 := List.getD z4 2 0, w3 := List.getD z4 3 0 }, ()), ())⟩))
theorem agR (ok0 : bV → Bool) (g0_0 : bV → iu) (x : xa) (Q : ga.Y → Prop) : wpf te mA (bp 0 (dv ow 0 ok0 (uz g0_0)) ax) 1000 Try.f76 (ga.inp.inj x).tm (ga.inp.inj x).hp (fnK ga F8 Q) (fun _ _ => False) = (Iw ok0 g0_0 (x.1.1) (x.1.2.1)).wpR Q := by kernel_rfl
theorem PU (ok0 : bV → Bool) (g0_0 : bV → iu) (h0 : ∀ s : bV, ok0 s = true → ∃ m e, au (ox) m s = some e ∧ (uz g0_0 s).run = some e) (pre : xa → Bool) (F : xa → OT ga.Y) (hF : ∀ (x : xa) oy, pre x = true → (F x).run = some oy → (Iw ok0 g0_0 (x.1.1) (x.1.2.1)).run = some oy) : ab Try.prog 76 (ga.aK pre F) :=
  aD av kV vK (f := 76) (fn := Try.f76) (c := ak Try.f76) (by kernel_rfl) (by kernel_rfl) (by kernel_rfl) (S := ga) (k := 0) (by kernel_rfl) (fun R hR => (aI (c := (ak Try.f76)) (by kernel_rfl) (id := 0) (by kernel_rfl) (bw av kV vK (sh := ow) hR (xs := LG) (aH (by kernel_rfl) (by kernel_rfl) hR) aW ae (n := 1000) (T := ox) (fun s Q => abU s Q) (ok := ok0) (f := uz g0_0) h0) ae)) (n := 1000) (sel := F8) (fun v o h => by cases h; rfl) (pre := pre) (F := F) (T := fun x => Iw ok0 g0_0 (x.1.1) (x.1.2.1)) (fun x Q => agR ok0 g0_0 x Q) hF
theorem acx {x y c : UInt64} : x + y + c = rE x y c := by
  have hx := x.toNat_lt
  have hy := y.toNat_lt
  unfold rE
  rw [← UInt64.toNat_inj, UInt64.toNat_add, UInt64.toNat_add, UInt64.toNat_ofNat']
  omega
theorem Kq {x y c : UInt64} (hc : c.toNat ≤ 1) : (tN x y c).toNat = (x.toNat + y.toNat + c.toNat) / 18446744073709551616 := by
  have hx := x.toNat_lt
  have hy := y.toNat_lt
  unfold tN
  rw [UInt64.toNat_ofNat']
  omega
theorem alB {x y c : UInt64} (hc : c.toNat ≤ 1) (h : x + y < x) : tN x y c = 1 := by
  have hx := x.toNat_lt
  have hy := y.toNat_lt
  have h := UInt64.lt_iff_toNat_lt.1 h
  rw [UInt64.toNat_add] at h
  rw [← UInt64.toNat_inj, Kq hc, show (1 : UInt64).toNat = 1 from rfl]
  omega
theorem alA {x y c : UInt64} (hc : c.toNat ≤ 1) (h : ¬ x + y < x) (h2 : x + y + c < x + y) : tN x y c = 1 := by
  have hx := x.toNat_lt
  have hy := y.toNat_lt
  have h : ¬ (x + y).toNat < x.toNat := fun e => h (UInt64.lt_iff_toNat_lt.2 e)
  have h2 := UInt64.lt_iff_toNat_lt.1 h2
  rw [UInt64.toNat_add] at h
  rw [UInt64.toNat_add, UInt64.toNat_add] at h2
  rw [← UInt64.toNat_inj, Kq hc, show (1 : UInt64).toNat = 1 from rfl]
  omega
theorem alz {x y c : UInt64} (hc : c.toNat ≤ 1) (h : ¬ x + y < x) (h2 : ¬ x + y + c < x + y) : tN x y c = 0 := by
  have hx := x.toNat_lt
  have hy := y.toNat_lt
  have h : ¬ (x + y).toNat < x.toNat := fun e => h (UInt64.lt_iff_toNat_lt.2 e)
  have h2 : ¬ (x + y + c).toNat < (x + y).toNat := fun e => h2 (UInt64.lt_iff_toNat_lt.2 e)
  rw [UInt64.toNat_add] at h
  rw [UInt64.toNat_add, UInt64.toNat_add] at h2
  rw [← UInt64.toNat_inj, Kq hc, show (0 : UInt64).toNat = 0 from rfl]
  omega
def Ga (s : bV) : Bool := decide (s.1.2.2.2.2.1 = 0 ∧ s.1.2.2.2.2.2.1 = 0 ∧ s.2.1.length = 4 ∧ s.2.2.1.length = 4 ∧ s.2.2.2.2.1 = [0, 0, 0, 0])
def LJ (s : bV) : iu := (((), (), ()), (s.2.2.2.1, (upto (FK s.2.1 s.2.2.1) ([0, 0, 0, 0], 0) 4).1, ()))
theorem abW : ∀ s : bV, Ga s = true → ∃ m e, au ox m s = some e ∧ (uz LJ s).run = some e := by
  rintro ⟨⟨⟨⟩, ⟨⟩, ⟨⟩, ⟨⟩, c, i, ⟨⟩⟩, ⟨c0, c1, c2, c3, ⟨⟩⟩⟩ h
  have h' := of_decide_eq_true h
  dsimp only at h'
  obtain ⟨rfl, rfl, h0, h1, rfl⟩ := h'
  have := (bF (T := ox) (fun k s => ((((), (), (), (), s.2, (k : Int), ()), (c0, c1, c2, s.1, ())) : bV)) (FK c0 c1)
    (fun s => (⟨(.exit 0, mS), (((), (), ()), (c2, s.1, ()))⟩ : aO)) 4 ([0, 0, 0, 0], 0) (fun _ s => s.1.length = 4 ∧ s.2.toNat ≤ 1) ⟨rfl, by decide⟩ (fun k s hk hs => ⟨?_, ?_⟩) (fun s hs => ?_)).1
  · obtain ⟨m, hm⟩ := this
    exact ⟨m, _, hm, rfl⟩
  · obtain ⟨o, c⟩ := s
    dsimp only at hs
    refine (OT.ao (decide_eq_true (by dsimp only; omega))).trans ((ai ?_).trans ?_)
    · simp only [Int.toNat_natCast, Nat.add_zero, h0, h1, hs.1, List.all_cons, List.all_nil, Bool.and_true, Bool.and_eq_true]
      exact ⟨bJ (by omega), decide_eq_true (by omega), bJ (by omega), decide_eq_true (by omega), bJ (by omega), decide_eq_true (by omega), bJ (by omega), decide_eq_true (by omega)⟩
    · have hi : ∀ z, (gd [inR ((k : Int) + 1)] z : OT (Sum bV aO)).run = z.run := fun z => ai (by simp only [List.all_cons, List.all_nil, Bool.and_true]; exact bC (by omega))
      have hw := acx (x := c0.getD k 0) (y := c1.getD k 0) (c := c)
      by_cases hx : c0.getD k 0 + c1.getD k 0 < c0.getD k 0
      · have hk1 := alB hs.2 hx
        refine (OT.ao (decide_eq_true ?_)).trans ((hi _).trans ?_)
        · simp only [Int.toNat_natCast, Nat.add_zero]; exact hx
        · simp only [OT.jz, Int.toNat_natCast, Nat.add_zero, FK, hw, hk1]
          rfl
      · have hs2 : ∀ v, (o.set k v).getD k 0 = v := fun v => by
          rw [List.getD_eq_getElem?_getD, List.getElem?_set_self (by omega)]
          rfl
        refine (OT.ap (decide_eq_false ?_)).trans ((ai ?_).trans ?_)
        · simp only [Int.toNat_natCast, Nat.add_zero]; exact hx
        · simp only [Int.toNat_natCast, Nat.add_zero, List.length_set, hs.1, List.all_cons, List.all_nil, Bool.and_true, Bool.and_eq_true]
          exact ⟨bJ (by omega), decide_eq_true (by omega)⟩
        · by_cases hd : c0.getD k 0 + c1.getD k 0 + c < c0.getD k 0 + c1.getD k 0
          · have hk2 := alA hs.2 hx hd
            refine (OT.ao (decide_eq_true ?_)).trans ((hi _).trans ?_)
            · simp only [Int.toNat_natCast, Nat.add_zero, hs2]; exact hd
            · simp only [OT.jz, Int.toNat_natCast, Nat.add_zero, FK, hw, hk2]
              rfl
          · have hk3 := alz hs.2 hx hd
            refine (OT.ap (decide_eq_false ?_)).trans ((hi _).trans ?_)
            · simp only [Int.toNat_natCast, Nat.add_zero, hs2]; exact hd
            · simp only [OT.jz, Int.toNat_natCast, Nat.add_zero, FK, hw, hk3]
              rfl
  · exact ⟨by simp only [FK, List.length_set]; exact hs.1, yG hs.2⟩
  · exact OT.ap (decide_eq_false (by dsimp only; omega))
def F9 (_ : xa) : Bool := true
def Ix (x : xa) : OT ga.Y := .ok ⟨BQ, (((tO x.1.1 x.1.2.1).1, ()), ())⟩
theorem abV : ab Try.prog 76 (ga.aK F9 Ix) := PU Ga LJ abW _ _ fun x oy hp ho => by
  rw [← ho]
  clear ho
  obtain ⟨⟨a, b, ⟨⟩⟩, ⟨⟩⟩ := x
  obtain ⟨_, hw⟩ := FL a b
  refine (ai ?_).trans ?_
  · simp only [List.all_cons, List.all_nil, Bool.and_true, Bool.and_eq_true]
    exact ⟨rfl, rfl, rfl, rfl⟩
  · simp only [Ix, hw]
    rfl
def sg : cI := (ga.aK F9 Ix)
theorem LI : ab Try.prog 76 sg := abV
theorem LH : aJ sg := aA
def nC : Env := az 76 sg mA
theorem ks : aV Try.prog nC := ag LI kV
theorem vJ : aw nC := ac LH rS
theorem pL : bg Try.prog te nC := aN follows av ks vJ
def jL : aq := ⟨[.val false .int, .val true .elem], [], true, 0, false⟩
abbrev LK : Type := ((Int) × (aa) × Unit) × (Unit)
def BT : Shape := ⟨60, [(3, .ptr 0 0 0), (4, .ptr 1 0 0), (5, .val false .u64), (6, .val false .u64), (7, .val false .int)], [(0, .row .u64), (1, .row .u64)], 0, true⟩
abbrev c8 : Type := ((Unit) × (Unit) × (UInt64) × (UInt64) × (Int) × Unit) × ((List (UInt64)) × (List (UInt64)) × Unit)
def uB : Shape := ⟨60, [(4, .ptr 0 0 0), (6, .val false .u64)], [(0, .row .u64)], 0, true⟩
abbrev lD : Type := ((Unit) × (UInt64) × Unit) × ((List (UInt64)) × Unit)
def ab1 : SE → Option Shape := ku [(0, uB)] none
def alk (a5 : UInt64) (a6 : UInt64) (a7 : Int) (c0 : List (UInt64)) (c1 : List (UInt64)) : OT (Sum c8 aO) :=
  let z0 : Bool := inB a7 4
  let z1 : Bool := decide (Int.toNat a7 + 0 < List.length c0)
  let z2 : Bool := !a5 == (0 : UInt64)
  let z3 : UInt64 := List.getD c0 (Int.toNat a7 + 0) (0 : UInt64)
  (.br (decide ((0 : Int) ≤ a7))
  (gd [z0, z1, z2, z0, z1, z2, inR (a7 - (1 : Int))] (.ok (.inl (((), ((), (a5, ((cD ((cD a6 (32 : Int) + bu z3 (32 : Int)) % a5) (32 : Int) + (z3 &&& (4294967295 : UInt64))) % a5, (a7 - (1 : Int), ()))))), (c0, (c1, ()))))))
  (.ok (.inr ⟨(.exit 0, uB), (((), (a6, ())), (c1, ()))⟩)))
def BV (s : c8) : OT (Sum c8 aO) := alk (s.1.2.2.1) (s.1.2.2.2.1) (s.1.2.2.2.2.1) (s.2.1) (s.2.2.1)
theorem alg (s : c8) (Q : Sum c8 aO → Prop) : wps te nC ax 1000 (bG (ak Try.f54) 0) (BT.inj s) (cU BT ab1 (Q : Sum BT.T aO → Prop)) = (BV s).wpR Q := by kernel_rfl
def IA (g0_0 : c8 → lD) (s : c8) : OT aO := (.ok ⟨(.exit 0, uB), g0_0 s⟩)
def BS : Shape := ⟨60, [(3, .ptr 0 0 0), (4, .ptr 1 0 0), (8, .ptr 2 0 0)], [(0, .row .u64), (1, .row .u64), (2, .row .u64)], 0, true⟩
abbrev dq : Type := ((Unit) × (Unit) × (Unit) × Unit) × ((List (UInt64)) × (List (UInt64)) × (List (UInt64)) × Unit)
def uA : Shape := ⟨60, [(3, .ptr 0 0 0), (4, .ptr 1 0 0)], [(0, .row .u64), (1, .row .u64)], 0, true⟩
abbrev lC : Type := ((Unit) × (Unit) × Unit) × ((List (UInt64)) × (List (UInt64)) × Unit)
def ab0 : SE → Option Shape := ku [(2, uA)] none
def alj (c0 : List (UInt64)) (c1 : List (UInt64)) (c2 : List (UInt64)) : OT (Sum dq aO) :=
  let z0 : Nat := List.length c0
  let z1 : Bool := decide (4 ≤ z0)
  let z2 : Bool := decide (4 ≤ List.length c2)
  let z3 : aa := { w0 := List.getD c0 0 0, w1 := List.getD c0 1 0, w2 := List.getD c0 2 0, w3 := List.getD c0 3 0 }
  let z4 : aa := { w0 := List.getD c2 0 0, w1 := List.getD c2 1 0, w2 := List.getD c2 2 0, w3 := List.getD c2 3 0 }
  let z5 := (lb z3 z4).fst
  (gd [z1, z2] (.br (!Nat.blt (aa.nat z3) (aa.nat z4))
  (gd [z1, z2, decide ((4 / 1 : Nat) + 0 ≤ z0)] (.ok (.inl (((), ((), ((), ()))), (List.set (List.set (List.set (List.set c0 0 z5.w0) 1 z5.w1) 2 z5.w2) 3 z5.w3, (c1, (c2, ())))))))
  (.ok (.inr ⟨(.exit 2, uA), (((), ((), ())), (c0, (c1, ())))⟩))))
def BU (s : dq) : OT (Sum dq aO) := alj (s.2.1) (s.2.2.1) (s.2.2.2.1)
theorem alf (s : dq) (Q : Sum dq aO → Prop) : wps te nC ax 1000 (bG (ak Try.f54) 2) (BS.inj s) (cU BS ab0 (Q : Sum BS.T aO → Prop)) = (BU s).wpR Q := by kernel_rfl
def Iz (g2_2 : dq → lC) (s : dq) : OT aO := (.ok ⟨(.exit 2, uA), g2_2 s⟩)
def lf : ay := ⟨[.val true .elem], [], false⟩
def Ue : SV → Option ay := fun _ => some lf
def Ug (ok0 : c8 → Bool) (g0_0 : c8 → lD) (ok2 : dq → Bool) (g2_2 : dq → lC) (a0 : Int) (a1 : aa) : OT jL.Y :=
  let z0 : (PUnit × PUnit × UInt64 × UInt64 × Int × PUnit) × List UInt64 × List UInt64 × PUnit := (((), (), KP a0, (0 : UInt64), (3 : Int), ()), [a1.w0, a1.w1, a1.w2, a1.w3], [(0 : UInt64), (0 : UInt64), (0 : UInt64), (0 : UInt64)], ())
  let z1 : Bool := ok0 z0
  let z2 : (PUnit × UInt64 × PUnit) × List UInt64 × PUnit := g0_0 z0
  let z3 := z2.snd.fst
  let z4 : Bool := decide ((4 / 1 : Nat) + 0 ≤ List.length z3)
  let z5 : List UInt64 := List.set (List.set (List.set (List.set z3 0 z2.fst.snd.fst) 1 (0 : UInt64)) 2 (0 : UInt64)) 3 (0 : UInt64)
  let z6 : Bool := decide (4 ≤ List.length z5)
  let z7 : aa := { w0 := List.getD z5 0 0, w1 := List.getD z5 1 0, w2 := List.getD z5 2 0, w3 := List.getD z5 3 0 }
  let z8 : aa := (bQ (Int.toNat a0)).fst
  let z9 : (PUnit × PUnit × PUnit × PUnit) × List UInt64 × List UInt64 × List UInt64 × PUnit := (((), (), (), ()), [a1.w0, a1.w1, a1.w2, a1.w3], [(0 : UInt64), (0 : UInt64), (0 : UInt64), (0 : UInt64)], [z8.w0, z8.w1, z8.w2, z8.w3], ())
  let z10 := (g2_2 z9).snd
  let z11 := z10.fst
  let z12 := z10.snd.fst
  let z13 : List UInt64 := lay z12 z11 4 (0 : UInt64)
  (.br (a0 == (0 : Int))
  (gd [z1, z4, z6] (.ok ⟨lf, ((z7, ()), ())⟩))
  (.br (a0 == (1 : Int))
    (gd [z1, z4, z6] (.ok ⟨lf, ((z7, ()), ())⟩))
    (.br (aj a0)
      (gd [ok2 z9, decide (4 ≤ List.length z11), decide ((4 / 1 : Nat) + 0 ≤ List.length z12), decide (4 ≤ List.length z13)] (.ok ⟨lf, (({ w0 := List.getD z13 0 0, w1 := List.getD z13 1 0, w2 := List.getD z13 2 0, w3 := List.getD z13 3 0 }, ()), ())⟩))
      (.ok ⟨lf, (({ w0 := 0, w1 := 0, w2 := 0, w3 := 0 }, ()), ())⟩))))
theorem anN (ok0 : c8 → Bool) (g0_0 : c8 → lD) (ok2 : dq → Bool) (g2_2 : dq → lC) (x : LK) (Q : jL.Y → Prop) : wpf te nC (bp 2 (dv BS 2 ok2 (Iz g2_2)) (bp 0 (dv BT 0 ok0 (IA g0_0)) ax)) 1000 Try.f54 (jL.inp.inj x).tm (jL.inp.inj x).hp (fnK jL Ue Q) (fun _ _ => False) = (Ug ok0 g0_0 ok2 g2_2 (x.1.1) (x.1.2.1)).wpR Q := by kernel_rfl
theorem ab3 (ok0 : c8 → Bool) (g0_0 : c8 → lD) (ok2 : dq → Bool) (g2_2 : dq → lC) (h0 : ∀ s : c8, ok0 s = true → ∃ m e, au (BV) m s = some e ∧ (IA g0_0 s).run = some e) (h2 : ∀ s : dq, ok2 s = true → ∃ m e, au (BU) m s = some e ∧ (Iz g2_2 s).run = some e) (pre : LK → Bool) (F : LK → OT jL.Y) (hF : ∀ (x : LK) oy, pre x = true → (F x).run = some oy → (Ug ok0 g0_0 ok2 g2_2 (x.1.1) (x.1.2.1)).run = some oy) : ab Try.prog 54 (jL.aK pre F) :=
  aD av ks pL (f := 54) (fn := Try.f54) (c := ak Try.f54) (by kernel_rfl) (by kernel_rfl) (by kernel_rfl) (S := jL) (k := 0) (by kernel_rfl) (fun R hR => (aI (c := (ak Try.f54)) (by kernel_rfl) (id := 2) (by kernel_rfl) (bw av ks pL (sh := BS) hR (xs := ab0) (aH (by kernel_rfl) (by kernel_rfl) hR) aW ae (n := 1000) (T := BU) (fun s Q => alf s Q) (ok := ok2) (f := Iz g2_2) h2) (aI (c := (ak Try.f54)) (by kernel_rfl) (id := 0) (by kernel_rfl) (bw av ks pL (sh := BT) hR (xs := ab1) (aH (by kernel_rfl) (by kernel_rfl) hR) aW ae (n := 1000) (T := BV) (fun s Q => alg s Q) (ok := ok0) (f := IA g0_0) h0) ae))) (n := 1000) (sel := Ue) (fun v o h => by cases h; rfl) (pre := pre) (F := F) (T := fun x => Ug ok0 g0_0 ok2 g2_2 (x.1.1) (x.1.2.1)) (fun x Q => anN ok0 g0_0 ok2 g2_2 x Q) hF
theorem anW {r w m : Nat} : ((r * 4294967296 + w / 4294967296) % m * 4294967296 + w % 4294967296) % m = (r * 18446744073709551616 + w) % m := by
  have e : (r * 4294967296 + w / 4294967296) * 4294967296 + w % 4294967296 = r * 18446744073709551616 + w := by omega
  rw [Nat.add_mod, Nat.mul_mod, Nat.mod_mod, ← Nat.mul_mod, ← Nat.add_mod, e]
theorem alE {r w m : UInt64} (hs : eV m = true) (hr : r.toNat < m.toNat) : (cD ((cD r 32 + bu w 32) % m) 32 + (w &&& 4294967295)) % m = NJ r w m := by
  have hm := jy hs
  have hb : m.toNat ≤ 16521217 := by rcases dw hs with rfl | rfl <;> decide
  have hw := w.toNat_lt
  have e1 : (cD r 32).toNat = r.toNat * 4294967296 := by
    have : (cD r 32).toNat = r.toNat * 2 ^ 32 % 2 ^ 64 := lp r 32 (by omega)
    rw [this]
    omega
  have e2 : (bu w 32).toNat = w.toNat / 4294967296 := fW w 32 (by omega)
  have e3 : ((cD r 32 + bu w 32) % m).toNat = (r.toNat * 4294967296 + w.toNat / 4294967296) % m.toNat := by
    rw [UInt64.toNat_mod, UInt64.toNat_add, e1, e2, Nat.mod_eq_of_lt (a := r.toNat * 4294967296 + w.toNat / 4294967296) (by omega)]
  generalize (cD r 32 + bu w 32) % m = q at e3
  have hq : q.toNat < m.toNat := by rw [e3]; exact Nat.mod_lt _ hm
  have e4 : (cD q 32).toNat = q.toNat * 4294967296 := by
    have : (cD q 32).toNat = q.toNat * 2 ^ 32 % 2 ^ 64 := lp q 32 (by omega)
    rw [this]
    omega
  rw [← UInt64.toNat_inj, nw hm, UInt64.toNat_mod, UInt64.toNat_add, e4, ij, Nat.mod_eq_of_lt (a := q.toNat * 4294967296 + w.toNat % 4294967296) (by omega), e3, anW]
def AU (s : c8) : Bool := decide (s.1.2.2.2.1 = 0 ∧ s.1.2.2.2.2.1 = 3 ∧ s.2.1.length = 4) && eV s.1.2.2.1
def PY (s : c8) : lD := (((), anH s.2.1 s.1.2.2.1, ()), (s.2.2.1, ()))
theorem ali : ∀ s : c8, AU s = true → ∃ m e, au BV m s = some e ∧ (IA PY s).run = some e := by
  rintro ⟨⟨⟨⟩, ⟨⟩, sm, r, i, ⟨⟩⟩, ⟨c1, c2, ⟨⟩⟩⟩ h
  simp only [AU, Bool.and_eq_true, decide_eq_true_eq] at h
  obtain ⟨⟨rfl, rfl, hl⟩, hs⟩ := h
  have hm := jy hs
  have hz : (!(sm == 0)) = true := by rcases dw hs with rfl | rfl <;> rfl
  have := (bF (T := BV) (fun k r => ((((), (), sm, r, 3 - (k : Int), ()), (c1, c2, ())) : c8)) (fun k r => NJ r (c1.getD (3 - k) 0) sm)
    (fun r => (⟨(.exit 0, uB), (((), r, ()), (c2, ()))⟩ : aO)) 4 0 (fun _ r => r.toNat < sm.toNat) hm (fun k r hk hr => ⟨?_, ?_⟩) (fun r hr => ?_)).1
  · obtain ⟨m, hm⟩ := this
    exact ⟨m, _, hm, rfl⟩
  · have e1 : (3 - (k : Int)).toNat = 3 - k := by omega
    have e2 : (3 : Int) - (k : Int) - 1 = 3 - ((k + 1 : Nat) : Int) := by omega
    refine (OT.ao (decide_eq_true (by dsimp only; omega))).trans ((ai ?_).trans ?_)
    · simp only [e1, Nat.add_zero, hl, hz, List.all_cons, List.all_nil, Bool.and_true, Bool.true_and, Bool.and_eq_true]
      exact ⟨bJ (by omega), decide_eq_true (by omega), bJ (by omega), decide_eq_true (by omega), bC (by omega)⟩
    · simp only [OT.jz, e1, e2, Nat.add_zero, alE hs hr]
  · rw [nw hm]
    exact Nat.mod_lt _ hm
  · exact OT.ap (decide_eq_false (by dsimp only; omega))
def Iy (s : dq) : Bool := decide (s.2.1.length = 4 ∧ s.2.2.2.1.length = 4 ∧ 0 < (elemOf s.2.2.2.1).nat)
def PX (s : dq) : lC := (((), (), ()), (lst (ofN ((elemOf s.2.1).nat % (elemOf s.2.2.2.1).nat)), s.2.2.1, ()))
theorem WV {M : aa} {c2 : List UInt64} (hm : 0 < M.nat) : ∀ (n : Nat) (a : aa), a.nat = n →
    ∃ m, au BU m (((), (), (), ()), (lst a, c2, lst M, ())) = some ⟨(.exit 2, uA), (((), (), ()), (lst (ofN (a.nat % M.nat)), c2, ()))⟩ := by
  intro n
  induction n using Nat.strongRecOn with
  | _ n ih =>
    intro a hn
    rcases (Bool.eq_false_or_eq_true (Nat.blt a.nat M.nat)).symm with hb | hb
    · have hle : M.nat ≤ a.nat := by
        rcases Nat.lt_or_ge a.nat M.nat with h | h
        · have : Nat.blt a.nat M.nat = true := Nat.ble_eq_true_of_le h
          rw [this] at hb; cases hb
        · exact h
      have hd := mI hle
      obtain ⟨m, hm2⟩ := ih (a.nat - M.nat) (by omega) (lb a M).1 hd
      rw [hd, ← Nat.mod_eq_sub_mod hle] at hm2
      refine ⟨m + 1, aM ?_ hm2⟩
      refine (ai rfl).trans ((OT.ao (b := !Nat.blt a.nat M.nat) (by rw [hb]; rfl)).trans ((ai rfl).trans rfl))
    · have hlt := cL hb
      rw [Nat.mod_eq_of_lt hlt, qB]
      refine ⟨1, aR ?_⟩
      exact (ai rfl).trans (OT.ap (b := !Nat.blt a.nat M.nat) (by rw [hb]; rfl))
theorem alh : ∀ s : dq, Iy s = true → ∃ m e, au BU m s = some e ∧ (Iz PX s).run = some e := by
  rintro ⟨⟨⟨⟩, ⟨⟩, ⟨⟩, ⟨⟩⟩, ⟨l, c2, l2, ⟨⟩⟩⟩ h
  have h' := of_decide_eq_true h
  dsimp only at h'
  obtain ⟨h1, h2, h3⟩ := h'
  obtain ⟨a, rfl⟩ : ∃ a, l = lst a := ⟨elemOf l, (bc h1).symm⟩
  obtain ⟨M, rfl⟩ : ∃ a, l2 = lst a := ⟨elemOf l2, (bc h2).symm⟩
  obtain ⟨m, hm⟩ := WV (c2 := c2) (M := M) h3 _ a rfl
  exact ⟨m, _, hm, rfl⟩
def ofP (p : Nat) (a : aa) : aa := ofN (a.nat % p)
def Uf (_ : LK) : Bool := true
def aiN (x : LK) : OT jL.Y := .br (aj x.1.1) (.ok ⟨lf, ((ofP (pS x.1.1) x.1.2.1, ()), ())⟩) (.ok ⟨lf, ((⟨0, 0, 0, 0⟩, ()), ())⟩)
theorem Mn {a : aa} {p : Nat} {m : UInt64} (hp : p = m.toNat) (hs : eV m = true) : (⟨anH (lst a) m, 0, 0, 0⟩ : aa) = ofP p a := by
  have hm := jy hs
  unfold ofP
  rw [TY hs, hp, oK (n := a.nat % m.toNat) (Nat.lt_trans (Nat.mod_lt _ hm) m.toNat_lt)]
theorem UB {s : Int} {a : aa} (h0 : (s == 0) = false) (h1 : (s == 1) = false) (hs : aj s = true) : (Ug AU PY Iy PX s a).run = some ⟨lf, ((ofP (pS s) a, ()), ())⟩ := by
  refine (OT.ap h0).trans ((OT.ap h1).trans ((OT.ao hs).trans ((ai ?_).trans rfl)))
  simp only [List.all_cons, List.all_nil, Bool.and_true, Bool.and_eq_true]
  exact ⟨decide_eq_true ⟨rfl, rfl, (fN hs).1⟩, rfl, rfl, rfl⟩
theorem ab2 : ab Try.prog 54 (jL.aK Uf aiN) := ab3 AU PY Iy PX ali alh _ _ fun x oy _ ho => by
  rw [← ho]
  clear ho
  obtain ⟨⟨s, a, ⟨⟩⟩, ⟨⟩⟩ := x
  rcases (Bool.eq_false_or_eq_true (aj s)).symm with hs | hs
  · obtain ⟨h0, h1, _, _⟩ := pZ hs
    exact (OT.ap h0).trans ((OT.ap h1).trans ((OT.ap hs).trans (OT.ap (b := aj s) hs).symm))
  · refine Eq.trans ?_ (OT.ao (b := aj s) hs).symm
    show _ = some (⟨lf, ((ofP (pS s) a, ()), ())⟩ : jL.Y)
    rcases cu hs with rfl | rfl | rfl | rfl
    · rw [← Mn (a := a) (p := pS 0) (m := 16513537) (by decide +kernel) rfl]
      refine (OT.ao rfl).trans ((ai ?_).trans rfl)
      exact rfl
    · rw [← Mn (a := a) (p := pS 1) (m := 16521217) (by decide +kernel) rfl]
      refine (OT.ap rfl).trans ((OT.ao rfl).trans ((ai ?_).trans rfl))
      exact rfl
    · exact UB rfl rfl rfl
    · exact UB rfl rfl rfl
def BR : cI := (jL.aK Uf aiN)
theorem WW : ab Try.prog 54 BR := ab2
theorem WU : aJ BR := aA
def OM : Env := az 54 BR nC
theorem Es : aV Try.prog OM := ag WW ks
theorem Et : aw OM := ac WU vJ
theorem Zf : bg Try.prog te OM := aN follows av Es Et
def fF : aq := ⟨[.val false .int, .val true .elem, .val true .elem], [], true, 0, false⟩
abbrev Gq : Type := ((Int) × (aa) × (aa) × Unit) × (Unit)
def cw : ay := ⟨[.val true .elem], [], false⟩
def Mc : SV → Option ay := fun _ => some cw
def Qx (a0 : Int) (a1 : aa) (a2 : aa) : OT fF.Y :=
  let z0 : Bool := aj a0
  let z1 : UInt64 := KP a0
  let z2 : Bool := !z1 == (0 : UInt64)
  let z3 : Nat := pS a0
  let z4 : aa := ofP z3 a1
  let z5 := z4.w0
  let z6 : aa := ofP z3 a2
  let z7 := z6.w0
  let z8 : aa := { w0 := (z5 + z7) % z1, w1 := 0, w2 := 0, w3 := 0 }
  let z9 : aa := { w0 := (z5 + (0 : UInt64)) % z1, w1 := 0, w2 := 0, w3 := 0 }
  let z10 : aa := { w0 := ((0 : UInt64) + z7) % z1, w1 := 0, w2 := 0, w3 := 0 }
  let z11 : aa := { w0 := 0 % z1, w1 := 0, w2 := 0, w3 := 0 }
  let z12 : aa := { w0 := 0, w1 := 0, w2 := 0, w3 := 0 }
  (.br (a0 == (0 : Int))
  (.br (z0)
    (.br (z0)
      (gd [z2] (.ok ⟨cw, ((z8, ()), ())⟩))
      (gd [z2] (.ok ⟨cw, ((z9, ()), ())⟩)))
    (.br (z0)
      (gd [z2] (.ok ⟨cw, ((z10, ()), ())⟩))
      (gd [z2] (.ok ⟨cw, ((z11, ()), ())⟩))))
  (.br (a0 == (1 : Int))
    (.br (z0)
      (.br (z0)
        (gd [z2] (.ok ⟨cw, ((z8, ()), ())⟩))
        (gd [z2] (.ok ⟨cw, ((z9, ()), ())⟩)))
      (.br (z0)
        (gd [z2] (.ok ⟨cw, ((z10, ()), ())⟩))
        (gd [z2] (.ok ⟨cw, ((z11, ()), ())⟩))))
    (.br (z0)
      (.br (z0)
        (.br (z0)
          (.ok ⟨cw, ((ofP z3 (tO z4 z6).fst, ()), ())⟩)
          (.ok ⟨cw, ((z12, ()), ())⟩))
        (.br (z0)
          (.ok ⟨cw, ((ofP z3 (tO z4 z12).fst, ()), ())⟩)
          (.ok ⟨cw, ((z12, ()), ())⟩)))
      (.br (z0)
        (.br (z0)
          (.ok ⟨cw, ((ofP z3 (tO z12 z6).fst, ()), ())⟩)
          (.ok ⟨cw, ((z12, ()), ())⟩))
        (.br (z0)
          (.ok ⟨cw, ((ofP z3 z12, ()), ())⟩)
          (.ok ⟨cw, ((z12, ()), ())⟩))))))
theorem alv (x : Gq) (Q : fF.Y → Prop) : wpf te OM ax 1000 Try.f43 (fF.inp.inj x).tm (fF.inp.inj x).hp (fnK fF Mc Q) (fun _ _ => False) = (Qx (x.1.1) (x.1.2.1) (x.1.2.2.1)).wpR Q := by kernel_rfl
theorem Xh (pre : Gq → Bool) (F : Gq → OT fF.Y) (hF : ∀ (x : Gq) oy, pre x = true → (F x).run = some oy → (Qx (x.1.1) (x.1.2.1) (x.1.2.2.1)).run = some oy) : ab Try.prog 43 (fF.aK pre F) :=
  aD av Es Zf (f := 43) (fn := Try.f43) (c := ak Try.f43) (by kernel_rfl) (by kernel_rfl) (by kernel_rfl) (S := fF) (k := 0) (by kernel_rfl) (fun R hR => ae) (n := 1000) (sel := Mc) (fun v o h => by cases h; rfl) (pre := pre) (F := F) (T := fun x => Qx (x.1.1) (x.1.2.1) (x.1.2.2.1)) (fun x Q => alv x Q) hF
theorem u2 {s : Int} (h : s = 0 ∨ s = 1) : pS s = (KP s).toNat ∧ 0 < (KP s).toNat ∧ (KP s).toNat ≤ 16521217 ∧ (!(KP s == 0)) = true := by
  rcases h with rfl | rfl <;> exact ⟨by decide +kernel, by decide +kernel, by decide +kernel, rfl⟩
theorem Za {s : Int} (h : s = 0 ∨ s = 1) (a b : aa) : (⟨((ofP (pS s) a).w0 + (ofP (pS s) b).w0) % KP s, 0, 0, 0⟩ : aa) = n0 (pS s) a b := by
  obtain ⟨hp, h0, h1, _⟩ := u2 h
  rw [hp]
  generalize KP s = m at *
  have ha := Nat.mod_lt a.nat h0
  have hb := Nat.mod_lt b.nat h0
  have hc := Nat.mod_lt (a.nat + b.nat) h0
  unfold n0
  rw [oK (by omega)]
  have e : ((ofP m.toNat a).w0 + (ofP m.toNat b).w0) % m = UInt64.ofNat ((a.nat + b.nat) % m.toNat) := by
    show (UInt64.ofNat (a.nat % m.toNat) + UInt64.ofNat (b.nat % m.toNat)) % m = _
    rw [← UInt64.toNat_inj, UInt64.toNat_mod, UInt64.toNat_add, UInt64.toNat_ofNat', UInt64.toNat_ofNat', UInt64.toNat_ofNat', Nat.mod_eq_of_lt (a := a.nat % m.toNat) (by omega), Nat.mod_eq_of_lt (a := b.nat % m.toNat) (by omega),
      Nat.mod_eq_of_lt (a := a.nat % m.toNat + b.nat % m.toNat) (by omega), Nat.mod_eq_of_lt (a := (a.nat + b.nat) % m.toNat) (by omega), ← Nat.add_mod]
  rw [e]
def lK (x : Gq) : Bool := aj x.1.1
def aco (x : Gq) : OT fF.Y := .ok ⟨cw, ((n0 (pS x.1.1) x.1.2.1 x.1.2.2.1, ()), ())⟩
theorem ag7 : ab Try.prog 43 (fF.aK lK aco) := Xh _ _ fun x oy hp ho => by
  rw [← ho]
  clear ho
  obtain ⟨⟨s, a, b, ⟨⟩⟩, ⟨⟩⟩ := x
  have hs : aj s = true := hp
  show _ = some (⟨cw, ((n0 (pS s) a b, ()), ())⟩ : fF.Y)
  have little : (s = 0 ∨ s = 1) → (gd [!(KP s == 0)] (.ok ⟨cw, ((⟨((ofP (pS s) a).w0 + (ofP (pS s) b).w0) % KP s, 0, 0, 0⟩, ()), ())⟩) : OT fF.Y).run = some (⟨cw, ((n0 (pS s) a b, ()), ())⟩ : fF.Y) := fun h => by
    obtain ⟨_, _, _, hz⟩ := u2 h
    rw [Za h]
    exact ai (by simp only [hz, List.all_cons, List.all_nil, Bool.and_true])
  by_cases h0 : s = 0
  · exact (OT.ao (by simpa using h0)).trans ((OT.ao hs).trans ((OT.ao hs).trans (little (.inl h0))))
  · refine (OT.ap (by simpa using h0)).trans ?_
    by_cases h1 : s = 1
    · exact (OT.ao (by simpa using h1)).trans ((OT.ao hs).trans ((OT.ao hs).trans (little (.inr h1))))
    · refine (OT.ap (by simpa using h1)).trans ((OT.ao hs).trans ((OT.ao hs).trans ((OT.ao hs).trans ?_)))
      have e : ofP (pS s) (tO (ofP (pS s) a) (ofP (pS s) b)).1 = n0 (pS s) a b := afv (fN hs) a b
      show some (⟨cw, ((ofP (pS s) (tO (ofP (pS s) a) (ofP (pS s) b)).1, ()), ())⟩ : fF.Y) = _
      rw [e]
def xu : cI := (fF.aK lK aco)
theorem Qw : ab Try.prog 43 xu := ag7
theorem Qv : aJ xu := aA
def ED : Env := az 43 xu OM
theorem yV : aV Try.prog ED := ag Qw Es
theorem zZ : aw ED := ac Qv Et
theorem SL : bg Try.prog te ED := aN follows av yV zZ
def iL : aq := ⟨[.val false .int, .val true .elem], [], true, 0, false⟩
abbrev Gb : Type := ((Int) × (aa) × Unit) × (Unit)
def kG : ay := ⟨[.val true .elem], [], false⟩
def LL : SV → Option ay := fun _ => some kG
def P4 (a0 : Int) (a1 : aa) : OT iL.Y :=
  let z0 : Bool := aj a0
  let z1 : Nat := pS a0
  let z2 : aa := (bQ (Int.toNat a0)).fst
  let z3 : aa := { w0 := 0, w1 := 0, w2 := 0, w3 := 0 }
  (.br (z0)
  (.br (z0)
    (.br (z0)
      (.ok ⟨kG, ((ofP z1 (lb z2 (ofP z1 a1)).fst, ()), ())⟩)
      (.ok ⟨kG, ((z3, ()), ())⟩))
    (.br (z0)
      (.ok ⟨kG, ((ofP z1 (lb z2 z3).fst, ()), ())⟩)
      (.ok ⟨kG, ((z3, ()), ())⟩)))
  (.ok ⟨kG, ((z3, ()), ())⟩))
theorem alm (x : Gb) (Q : iL.Y → Prop) : wpf te ED ax 1000 Try.f64 (iL.inp.inj x).tm (iL.inp.inj x).hp (fnK iL LL Q) (fun _ _ => False) = (P4 (x.1.1) (x.1.2.1)).wpR Q := by kernel_rfl
theorem WX (pre : Gb → Bool) (F : Gb → OT iL.Y) (hF : ∀ (x : Gb) oy, pre x = true → (F x).run = some oy → (P4 (x.1.1) (x.1.2.1)).run = some oy) : ab Try.prog 64 (iL.aK pre F) :=
  aD av yV SL (f := 64) (fn := Try.f64) (c := ak Try.f64) (by kernel_rfl) (by kernel_rfl) (by kernel_rfl) (S := iL) (k := 0) (by kernel_rfl) (fun R hR => ae) (n := 1000) (sel := LL) (fun v o h => by cases h; rfl) (pre := pre) (F := F) (T := fun x => P4 (x.1.1) (x.1.2.1)) (fun x Q => alm x Q) hF
theorem neg_eq {s : Int} (hs : aj s = true) (a : aa) : ofP (pS s) (lb (bQ s.toNat).1 (ofP (pS s) a)).1 = Ck (pS s) a := by
  have hp := fN hs
  have hlt := Nat.mod_lt a.nat hp.1
  have e : (ofP (pS s) a).nat = a.nat % pS s := cM hp
  unfold Ck
  have e2 : (lb (bQ s.toNat).1 (ofP (pS s) a)).1.nat = pS s - a.nat % pS s := by
    rw [mI (by rw [e]; exact Nat.le_of_lt hlt), e]
    rfl
  show ofN (_ % _) = _
  rw [e2]
def oz (x : Gb) : Bool := aj x.1.1
def ab4 (x : Gb) : OT iL.Y := .ok ⟨kG, ((Ck (pS x.1.1) x.1.2.1, ()), ())⟩
theorem agT : ab Try.prog 64 (iL.aK oz ab4) := WX _ _ fun x oy hp ho => by
  rw [← ho]
  clear ho
  obtain ⟨⟨s, a, ⟨⟩⟩, ⟨⟩⟩ := x
  have hs : aj s = true := hp
  show _ = some (⟨kG, ((Ck (pS s) a, ()), ())⟩ : iL.Y)
  rw [← neg_eq hs]
  exact (OT.ao hs).trans ((OT.ao hs).trans ((OT.ao hs).trans rfl))
def xd : cI := (iL.aK oz ab4)
theorem P0 : ab Try.prog 64 xd := agT
theorem PZ : aJ xd := aA
def Eu : Env := az 64 xd ED
theorem yN : aV Try.prog Eu := ag P0 yV
theorem zQ : aw Eu := ac PZ zZ
theorem SD : bg Try.prog te Eu := aN follows av yN zQ
def jJ : aq := ⟨[.val false .int, .val true .elem, .val true .elem], [], true, 0, false⟩
abbrev F6 : Type := ((Int) × (aa) × (aa) × Unit) × (Unit)
def Iu : ay := ⟨[.val true .elem], [], false⟩
def LA : SV → Option ay := fun _ => some Iu
def PS (a0 : Int) (a1 : aa) (a2 : aa) : OT jJ.Y :=
  let z0 : Nat := pS a0
  let z1 : aa := Ck z0 a2
  (gd [oz ((a0, a2, ()), ()), lK ((a0, a1, z1, ()), ())] (.ok ⟨Iu, ((n0 z0 a1 z1, ()), ())⟩))
theorem ale (x : F6) (Q : jJ.Y → Prop) : wpf te Eu ax 1000 Try.f88 (jJ.inp.inj x).tm (jJ.inp.inj x).hp (fnK jJ LA Q) (fun _ _ => False) = (PS (x.1.1) (x.1.2.1) (x.1.2.2.1)).wpR Q := by kernel_rfl
theorem WT (pre : F6 → Bool) (F : F6 → OT jJ.Y) (hF : ∀ (x : F6) oy, pre x = true → (F x).run = some oy → (PS (x.1.1) (x.1.2.1) (x.1.2.2.1)).run = some oy) : ab Try.prog 88 (jJ.aK pre F) :=
  aD av yN SD (f := 88) (fn := Try.f88) (c := ak Try.f88) (by kernel_rfl) (by kernel_rfl) (by kernel_rfl) (S := jJ) (k := 0) (by kernel_rfl) (fun R hR => ae) (n := 1000) (sel := LA) (fun v o h => by cases h; rfl) (pre := pre) (F := F) (T := fun x => PS (x.1.1) (x.1.2.1) (x.1.2.2.1)) (fun x Q => ale x Q) hF
def ec (x : F6) : Bool := aj x.1.1
def abN (x : F6) : OT jJ.Y := .ok ⟨Iu, ((eZ (pS x.1.1) x.1.2.1 x.1.2.2.1, ()), ())⟩
theorem agP : ab Try.prog 88 (jJ.aK ec abN) := WT _ _ fun x oy hp ho => by
  rw [← ho]
  clear ho
  obtain ⟨⟨s, a, b, ⟨⟩⟩, ⟨⟩⟩ := x
  have hs : aj s = true := hp
  refine (ai ?_).trans rfl
  simp only [List.all_cons, List.all_nil, Bool.and_true, Bool.and_eq_true]
  exact ⟨hs, hs⟩
def wW : cI := (jJ.aK ec abN)
theorem PR : ab Try.prog 88 wW := agP
theorem PQ : aJ wW := aA
def yL : Env := az 88 wW Eu
theorem rl : aV Try.prog yL := ag PR yN
theorem zO : aw yL := ac PQ zQ
theorem Ep : bg Try.prog te yL := aN follows av rl zO
def fE : aq := ⟨[.val false .int, .val true .elem, .val true .elem], [], true, 0, false⟩
abbrev Gc : Type := ((Int) × (aa) × (aa) × Unit) × (Unit)
def uC : Shape := ⟨80, [(4, .ptr 0 0 0), (5, .ptr 1 0 0), (6, .ptr 2 0 0), (7, .ptr 3 0 0), (9, .ptr 4 0 0), (10, .val false .int)], [(0, .row .u64), (1, .row .u64), (2, .row .u64), (3, .row .u64), (4, .row .u64)], 0, true⟩
abbrev bP : Type := ((Unit) × (Unit) × (Unit) × (Unit) × (Unit) × (Int) × Unit) × ((List (UInt64)) × (List (UInt64)) × (List (UInt64)) × (List (UInt64)) × (List (UInt64)) × Unit)
def qp : Shape := ⟨80, [(6, .ptr 0 0 0), (9, .ptr 1 0 0)], [(0, .row .u64), (1, .row .u64)], 0, true⟩
abbrev jM : Type := ((Unit) × (Unit) × Unit) × ((List (UInt64)) × (List (UInt64)) × Unit)
def Uh : SE → Option Shape := ku [(0, qp)] none
def IB (a10 : Int) (c0 : List (UInt64)) (c1 : List (UInt64)) (c2 : List (UInt64)) (c3 : List (UInt64)) (c4 : List (UInt64)) : OT (Sum bP aO) :=
  let z0 : Nat := List.length c4
  let z1 : Bool := decide (4 ≤ z0)
  let z2 : aa := { w0 := List.getD c4 0 0, w1 := List.getD c4 1 0, w2 := List.getD c4 2 0, w3 := List.getD c4 3 0 }
  let z3 := (tO z2 z2).fst
  let z4 : List UInt64 := List.set (List.set (List.set (List.set c4 0 z3.w0) 1 z3.w1) 2 z3.w2) 3 z3.w3
  let z5 : Nat := List.length z4
  let z6 : Bool := decide (4 ≤ z5)
  let z7 : Bool := decide (4 ≤ List.length c3)
  let z8 : aa := { w0 := List.getD z4 0 0, w1 := List.getD z4 1 0, w2 := List.getD z4 2 0, w3 := List.getD z4 3 0 }
  let z9 : aa := { w0 := List.getD c3 0 0, w1 := List.getD c3 1 0, w2 := List.getD c3 2 0, w3 := List.getD c3 3 0 }
  let z10 : Nat := aa.nat z9
  let z11 : Int := Int.tdiv a10 (64 : Int)
  let z12 : Bool := true && inR z11
  let z13 : Bool := inB z11 4
  let z14 : Bool := decide (Int.toNat z11 + 0 < List.length c1)
  let z15 := (lb z8 z9).fst
  let z16 : List UInt64 := List.set (List.set (List.set (List.set z4 0 z15.w0) 1 z15.w1) 2 z15.w2) 3 z15.w3
  let z17 : Nat := List.length z16
  let z18 : Bool := decide (4 ≤ List.length c0)
  let z19 : aa := { w0 := List.getD c0 0 0, w1 := List.getD c0 1 0, w2 := List.getD c0 2 0, w3 := List.getD c0 3 0 }
  let z20 : aa := (tO { w0 := List.getD z16 0 0, w1 := List.getD z16 1 0, w2 := List.getD z16 2 0, w3 := List.getD z16 3 0 } z19).fst
  let z21 : List UInt64 := List.set (List.set (List.set (List.set z16 0 z20.w0) 1 z20.w1) 2 z20.w2) 3 z20.w3
  let z22 : Nat := List.length z21
  let z23 : Bool := decide (4 ≤ z22)
  let z24 : aa := { w0 := List.getD z21 0 0, w1 := List.getD z21 1 0, w2 := List.getD z21 2 0, w3 := List.getD z21 3 0 }
  let z25 : Bool := inR (a10 - (1 : Int))
  let z26 := (lb z24 z9).fst
  let z27 := (tO z8 z19).fst
  let z28 : List UInt64 := List.set (List.set (List.set (List.set z4 0 z27.w0) 1 z27.w1) 2 z27.w2) 3 z27.w3
  let z29 : Nat := List.length z28
  let z30 : Bool := decide (4 ≤ z29)
  let z31 : aa := { w0 := List.getD z28 0 0, w1 := List.getD z28 1 0, w2 := List.getD z28 2 0, w3 := List.getD z28 3 0 }
  let z32 := (lb z31 z9).fst
  (.br (decide ((0 : Int) ≤ a10))
  (gd [z1, z1, decide ((4 / 1 : Nat) + 0 ≤ z0), z6, z7] (.br (!Nat.blt (aa.nat z8) z10)
    (gd [z6, z7, decide ((4 / 1 : Nat) + 0 ≤ z5), z12, z13, z14] (.br (bu (List.getD c1 (Int.toNat z11 + 0) (0 : UInt64)) (↑(UInt64.toNat (i2u (Int.tmod a10 (64 : Int)))) : Int) &&& (1 : UInt64) == (1 : UInt64))
      (gd [decide (4 ≤ z17), z18, decide ((4 / 1 : Nat) + 0 ≤ z17), z23, z7] (.br (!Nat.blt (aa.nat z24) z10)
        (gd [z23, z7, decide ((4 / 1 : Nat) + 0 ≤ z22), z25] (.ok (.inl (((), ((), ((), ((), ((), (a10 - (1 : Int), ())))))), (c0, (c1, (c2, (c3, (List.set (List.set (List.set (List.set z21 0 z26.w0) 1 z26.w1) 2 z26.w2) 3 z26.w3, ())))))))))
        (gd [z25] (.ok (.inl (((), ((), ((), ((), ((), (a10 - (1 : Int), ())))))), (c0, (c1, (c2, (c3, (z21, ())))))))))))
      (gd [z25] (.ok (.inl (((), ((), ((), ((), ((), (a10 - (1 : Int), ())))))), (c0, (c1, (c2, (c3, (z16, ())))))))))))
    (gd [z12, z13, z14] (.br (bu (List.getD c1 (Int.toNat z11 + 0) (0 : UInt64)) (↑(UInt64.toNat (i2u (Int.tmod a10 (64 : Int)))) : Int) &&& (1 : UInt64) == (1 : UInt64))
      (gd [z6, z18, decide ((4 / 1 : Nat) + 0 ≤ z5), z30, z7] (.br (!Nat.blt (aa.nat z31) z10)
        (gd [z30, z7, decide ((4 / 1 : Nat) + 0 ≤ z29), z25] (.ok (.inl (((), ((), ((), ((), ((), (a10 - (1 : Int), ())))))), (c0, (c1, (c2, (c3, (List.set (List.set (List.set (List.set z28 0 z32.w0) 1 z32.w1) 2 z32.w2) 3 z32.w3, ())))))))))
        (gd [z25] (.ok (.inl (((), ((), ((), ((), ((), (a10 - (1 : Int), ())))))), (c0, (c1, (c2, (c3, (z28, ())))))))))))
      (gd [z25] (.ok (.inl (((), ((), ((), ((), ((), (a10 - (1 : Int), ())))))), (c0, (c1, (c2, (c3, (z4, ())))))))))))))
  (.ok (.inr ⟨(.exit 0, qp), (((), ((), ())), (c2, (c4, ())))⟩)))
def qq (s : bP) : OT (Sum bP aO) := IB (s.1.2.2.2.2.2.1) (s.2.1) (s.2.2.1) (s.2.2.2.1) (s.2.2.2.2.1) (s.2.2.2.2.2.1)
theorem agU (s : bP) (Q : Sum bP aO → Prop) : wps te yL ax 1000 (bG (ak Try.f62) 0) (uC.inj s) (cU uC Uh (Q : Sum uC.T aO → Prop)) = (qq s).wpR Q := by kernel_rfl
def AV (g0_0 : bP → jM) (s : bP) : OT aO := (.ok ⟨(.exit 0, qp), g0_0 s⟩)
def cS : ay := ⟨[.val true .elem], [], false⟩
def LM : SV → Option ay := fun _ => some cS
def P7 (ok0 : bP → Bool) (g0_0 : bP → jM) (a0 : Int) (a1 : aa) (a2 : aa) : OT fE.Y :=
  let z0 : Bool := aj a0
  let z1 : UInt64 := KP a0
  let z2 : Bool := !z1 == (0 : UInt64)
  let z3 : Nat := pS a0
  let z4 : aa := ofP z3 a1
  let z5 := z4.w0
  let z6 : aa := ofP z3 a2
  let z7 := z6.w0
  let z8 : aa := { w0 := z5 * z7 % z1, w1 := 0, w2 := 0, w3 := 0 }
  let z9 : aa := { w0 := z5 * (0 : UInt64) % z1, w1 := 0, w2 := 0, w3 := 0 }
  let z10 : aa := { w0 := 0 * z7 % z1, w1 := 0, w2 := 0, w3 := 0 }
  let z11 : aa := { w0 := 0 % z1, w1 := 0, w2 := 0, w3 := 0 }
  let z12 : PUnit × PUnit × PUnit × PUnit × PUnit × Int × PUnit := ((), (), (), (), (), (255 : Int), ())
  let z13 : aa := (bQ (Int.toNat a0)).fst
  let z14 : List UInt64 × List UInt64 × List UInt64 × PUnit := ([(0 : UInt64), (0 : UInt64), (0 : UInt64), (0 : UInt64)], [z13.w0, z13.w1, z13.w2, z13.w3], [(0 : UInt64), (0 : UInt64), (0 : UInt64), (0 : UInt64)], ())
  let z15 : List UInt64 × List UInt64 × List UInt64 × List UInt64 × PUnit := ([z7, z6.w1, z6.w2, z6.w3], z14)
  let z16 : (PUnit × PUnit × PUnit × PUnit × PUnit × Int × PUnit) × List UInt64 × List UInt64 × List UInt64 × List UInt64 × List UInt64 × PUnit := (z12, [z5, z4.w1, z4.w2, z4.w3], z15)
  let z17 := (g0_0 z16).snd
  let z18 := z17.snd.fst
  let z19 := z17.fst
  let z20 : List UInt64 := lay z19 z18 4 (0 : UInt64)
  let z21 : List UInt64 × List UInt64 × List UInt64 × List UInt64 × PUnit := ([(0 : UInt64), (0 : UInt64), (0 : UInt64), (0 : UInt64)], z14)
  let z22 : (PUnit × PUnit × PUnit × PUnit × PUnit × Int × PUnit) × List UInt64 × List UInt64 × List UInt64 × List UInt64 × List UInt64 × PUnit := (z12, [z5, z4.w1, z4.w2, z4.w3], z21)
  let z23 := (g0_0 z22).snd
  let z24 := z23.snd.fst
  let z25 := z23.fst
  let z26 : List UInt64 := lay z25 z24 4 (0 : UInt64)
  let z27 : (PUnit × PUnit × PUnit × PUnit × PUnit × Int × PUnit) × List UInt64 × List UInt64 × List UInt64 × List UInt64 × List UInt64 × PUnit := (z12, [(0 : UInt64), (0 : UInt64), (0 : UInt64), (0 : UInt64)], z15)
  let z28 := (g0_0 z27).snd
  let z29 := z28.snd.fst
  let z30 := z28.fst
  let z31 : List UInt64 := lay z30 z29 4 (0 : UInt64)
  let z32 : (PUnit × PUnit × PUnit × PUnit × PUnit × Int × PUnit) × List UInt64 × List UInt64 × List UInt64 × List UInt64 × List UInt64 × PUnit := (z12, [(0 : UInt64), (0 : UInt64), (0 : UInt64), (0 : UInt64)], z21)
  let z33 := (g0_0 z32).snd
  let z34 := z33.snd.fst
  let z35 := z33.fst
  let z36 : List UInt64 := lay z35 z34 4 (0 : UInt64)
  (.br (a0 == (0 : Int))
  (.br (z0)
    (.br (z0)
      (gd [z2] (.ok ⟨cS, ((z8, ()), ())⟩))
      (gd [z2] (.ok ⟨cS, ((z9, ()), ())⟩)))
    (.br (z0)
      (gd [z2] (.ok ⟨cS, ((z10, ()), ())⟩))
      (gd [z2] (.ok ⟨cS, ((z11, ()), ())⟩))))
  (.br (a0 == (1 : Int))
    (.br (z0)
      (.br (z0)
        (gd [z2] (.ok ⟨cS, ((z8, ()), ())⟩))
        (gd [z2] (.ok ⟨cS, ((z9, ()), ())⟩)))
      (.br (z0)
        (gd [z2] (.ok ⟨cS, ((z10, ()), ())⟩))
        (gd [z2] (.ok ⟨cS, ((z11, ()), ())⟩))))
    (.br (z0)
      (.br (z0)
        (.br (z0)
          (gd [ok0 z16, decide (4 ≤ List.length z18), decide ((4 / 1 : Nat) + 0 ≤ List.length z19), decide (4 ≤ List.length z20)] (.ok ⟨cS, (({ w0 := List.getD z20 0 0, w1 := List.getD z20 1 0, w2 := List.getD z20 2 0, w3 := List.getD z20 3 0 }, ()), ())⟩))
          (gd [ok0 z22, decide (4 ≤ List.length z24), decide ((4 / 1 : Nat) + 0 ≤ List.length z25), decide (4 ≤ List.length z26)] (.ok ⟨cS, (({ w0 := List.getD z26 0 0, w1 := List.getD z26 1 0, w2 := List.getD z26 2 0, w3 := List.getD z26 3 0 }, ()), ())⟩)))
        (.br (z0)
          (gd [ok0 z27, decide (4 ≤ List.length z29), decide ((4 / 1 : Nat) + 0 ≤ List.length z30), decide (4 ≤ List.length z31)] (.ok ⟨cS, (({ w0 := List.getD z31 0 0, w1 := List.getD z31 1 0, w2 := List.getD z31 2 0, w3 := List.getD z31 3 0 }, ()), ())⟩))
          (gd [ok0 z32, decide (4 ≤ List.length z34), decide ((4 / 1 : Nat) + 0 ≤ List.length z35), decide (4 ≤ List.length z36)] (.ok ⟨cS, (({ w0 := List.getD z36 0 0, w1 := List.getD z36 1 0, w2 := List.getD z36 2 0, w3 := List.getD z36 3 0 }, ()), ())⟩))))
      (.ok ⟨cS, (({ w0 := 0, w1 := 0, w2 := 0, w3 := 0 }, ()), ())⟩))))
theorem aln (ok0 : bP → Bool) (g0_0 : bP → jM) (x : Gc) (Q : fE.Y → Prop) : wpf te yL (bp 0 (dv uC 0 ok0 (AV g0_0)) ax) 1000 Try.f62 (fE.inp.inj x).tm (fE.inp.inj x).hp (fnK fE LM Q) (fun _ _ => False) = (P7 ok0 g0_0 (x.1.1) (x.1.2.1) (x.1.2.2.1)).wpR Q := by kernel_rfl
theorem WY (ok0 : bP → Bool) (g0_0 : bP → jM) (h0 : ∀ s : bP, ok0 s = true → ∃ m e, au (qq) m s = some e ∧ (AV g0_0 s).run = some e) (pre : Gc → Bool) (F : Gc → OT fE.Y) (hF : ∀ (x : Gc) oy, pre x = true → (F x).run = some oy → (P7 ok0 g0_0 (x.1.1) (x.1.2.1) (x.1.2.2.1)).run = some oy) : ab Try.prog 62 (fE.aK pre F) :=
  aD av rl Ep (f := 62) (fn := Try.f62) (c := ak Try.f62) (by kernel_rfl) (by kernel_rfl) (by kernel_rfl) (S := fE) (k := 0) (by kernel_rfl) (fun R hR => (aI (c := (ak Try.f62)) (by kernel_rfl) (id := 0) (by kernel_rfl) (bw av rl Ep (sh := uC) hR (xs := Uh) (aH (by kernel_rfl) (by kernel_rfl) hR) aW ae (n := 1000) (T := qq) (fun s Q => agU s Q) (ok := ok0) (f := AV g0_0) h0) ae)) (n := 1000) (sel := LM) (fun v o h => by cases h; rfl) (pre := pre) (F := F) (T := fun x => P7 ok0 g0_0 (x.1.1) (x.1.2.1) (x.1.2.2.1)) (fun x Q => aln ok0 g0_0 x Q) hF
theorem Xn {s : Int} (h : s = 0 ∨ s = 1) (a b : aa) : (⟨(ofP (pS s) a).w0 * (ofP (pS s) b).w0 % KP s, 0, 0, 0⟩ : aa) = aQ (pS s) a b := by
  obtain ⟨hp, h0, h1, _⟩ := u2 h
  rw [hp]
  generalize KP s = m at *
  have ha := Nat.mod_lt a.nat h0
  have hb := Nat.mod_lt b.nat h0
  have hc := Nat.mod_lt (a.nat * b.nat) h0
  have hab : a.nat % m.toNat * (b.nat % m.toNat) < 18446744073709551616 := by
    have : a.nat % m.toNat * (b.nat % m.toNat) ≤ 16521217 * 16521217 := Nat.mul_le_mul (by omega) (by omega)
    omega
  unfold aQ
  rw [oK (n := a.nat * b.nat % m.toNat) (by omega)]
  have e : (ofP m.toNat a).w0 * (ofP m.toNat b).w0 % m = UInt64.ofNat (a.nat * b.nat % m.toNat) := by
    show UInt64.ofNat (a.nat % m.toNat) * UInt64.ofNat (b.nat % m.toNat) % m = _
    rw [← UInt64.toNat_inj, UInt64.toNat_mod, UInt64.toNat_mul, UInt64.toNat_ofNat', UInt64.toNat_ofNat', UInt64.toNat_ofNat', Nat.mod_eq_of_lt (a := a.nat % m.toNat) (by omega), Nat.mod_eq_of_lt (a := b.nat % m.toNat) (by omega),
      Nat.mod_eq_of_lt (a := a.nat % m.toNat * (b.nat % m.toNat)) (by omega), Nat.mod_eq_of_lt (a := a.nat * b.nat % m.toNat) (by omega), ← Nat.mul_mod]
  rw [e]
def vh (p a b : Nat) (n o : Nat) : Nat := cond (AK b (255 - n)) ((2 * o % p + a) % p) (2 * o % p)
theorem aeA (p a b : Nat) (hb : b < 2 ^ 256) : ∀ n, n ≤ 256 → upto (vh p a b) 0 n = a * (b / 2 ^ (256 - n)) % p
  | 0, _ => by
    show 0 = _
    rw [Nat.div_eq_of_lt (by exact hb), Nat.mul_zero, Nat.zero_mod]
  | n + 1, hn => by
    show vh p a b n (upto (vh p a b) 0 n) = _
    rw [aeA p a b hb n (by omega)]
    have e1 : 256 - n = (255 - n) + 1 := by omega
    have e2 : 256 - (n + 1) = 255 - n := by omega
    rw [e1, e2, Nat.pow_succ, ← Nat.div_div_eq_div_mul]
    unfold vh AK
    generalize b / 2 ^ (255 - n) = q
    have hd : 2 * (a * (q / 2) % p) % p = a * (2 * (q / 2)) % p := by
      rw [Nat.mul_mod, Nat.mod_mod, ← Nat.mul_mod, Nat.mul_left_comm]
    cases hq : Nat.beq (q % 2) 1
    · simp only [cond_false]
      have : ¬ q % 2 = 1 := fun e => by rw [e] at hq; cases hq
      rw [hd, show 2 * (q / 2) = q by omega]
    · have hq := Nat.eq_of_beq_eq_true hq
      simp only [cond_true]
      rw [hd, Nat.mod_add_mod]
      have e3 : a * (2 * (q / 2)) + a = a * q := by
        rw [← Nat.mul_succ, show (2 * (q / 2)).succ = q by omega]
      rw [e3]
theorem anJ {z M : aa} (h : Nat.blt z.nat M.nat = true) : z = ofN (z.nat % M.nat) := by
  rw [Nat.mod_eq_of_lt (cL h), qB]
theorem acH {n m : Nat} (h : Nat.blt n m = false) : m ≤ n := by
  rcases Nat.lt_or_ge n m with h' | h'
  · have : Nat.blt n m = true := Nat.ble_eq_true_of_le h'
    rw [this] at h; cases h
  · exact h'
theorem anI {z M : aa} (h : Nat.blt z.nat M.nat = false) (h2 : z.nat < 2 * M.nat) : (lb z M).1 = ofN (z.nat % M.nat) := by
  have hle := acH h
  have hz := gn z
  apply jV
  rw [mI hle, Nat.mod_eq_sub_mod hle, Nat.mod_eq_of_lt (by omega), gY (by omega)]
theorem sum_nat {a b : aa} (h : a.nat + b.nat < 115792089237316195423570985008687907853269984665640564039457584007913129639936) : (tO a b).1.nat = a.nat + b.nat := gY h
theorem adE {k : Nat} (hk : k < 64) : (((i2u (k : Int)).toNat : Nat) : Int) = (k : Int) := by
  unfold i2u
  rw [UInt64.toNat_ofNat']
  omega
theorem ajc {b : aa} {n : Nat} (hn : n < 256) : (bu (List.getD (lst b) (Int.toNat (Int.tdiv (255 - (n : Int)) 64) + 0) 0) (((i2u (Int.tmod (255 - (n : Int)) 64)).toNat : Nat) : Int) &&& 1 == 1) = AK b.nat (255 - n) := by
  have t0 : (255 : Int) - (n : Int) = ((255 - n : Nat) : Int) := by omega
  rw [t0]
  generalize hk : 255 - n = k
  have hk2 : k < 256 := by omega
  have t1 : Int.tdiv (k : Int) 64 = ((k / 64 : Nat) : Int) := by rw [Int.tdiv_eq_ediv_of_nonneg (by omega)]; omega
  have t2 : Int.tmod (k : Int) 64 = ((k % 64 : Nat) : Int) := by rw [Int.tmod_eq_emod_of_nonneg (by omega)]; omega
  rw [t1, t2, adE (by omega), Sg, fW _ _ (by omega), Int.toNat_natCast, Nat.add_zero]
  have := V9 (a := b) (q := k / 64) (r := k % 64) (by omega) (by omega)
  rw [show 64 * (k / 64) + k % 64 = k by omega] at this
  unfold AK
  rw [← this]
theorem am0 (e f : aa) : List.set (List.set (List.set (List.set (lst e) 0 f.w0) 1 f.w1) 2 f.w2) 3 f.w3 = lst f := rfl
theorem am7 (e : aa) : (⟨List.getD (lst e) 0 0, List.getD (lst e) 1 0, List.getD (lst e) 2 0, List.getD (lst e) 3 0⟩ : aa) = e := rfl
def aeB (A B : aa) (c2 : List UInt64) (M : aa) (n o : Nat) : bP := (((), (), (), (), (), 255 - (n : Int), ()), (lst A, lst B, c2, lst M, lst (ofN o), ()))
theorem amF {A B M : aa} {c2 : List UInt64} {n o : Nat} (hn : n < 256) (hA : A.nat < M.nat) (ho : o < M.nat) (hM : 2 * M.nat ≤ 115792089237316195423570985008687907853269984665640564039457584007913129639936) :
    (qq (aeB A B c2 M n o)).run = some (.inl (aeB A B c2 M (n + 1) (vh M.nat A.nat B.nat n o))) := by
  have e2 : (255 : Int) - (n : Int) - 1 = 255 - ((n + 1 : Nat) : Int) := by omega
  have hO : (ofN o).nat = o := gY (by omega)
  have hz : (tO (ofN o) (ofN o)).1.nat = 2 * o := by rw [sum_nat (by omega), hO]; omega
  have hbit := ajc (b := B) hn
  have t0 : (255 : Int) - (n : Int) = ((255 - n : Nat) : Int) := by omega
  have t1 : Int.tdiv (255 - (n : Int)) 64 = (((255 - n) / 64 : Nat) : Int) := by rw [t0, Int.tdiv_eq_ediv_of_nonneg (by omega)]; omega
  have gb : ∀ z : OT (Sum bP aO), (gd [true && inR (Int.tdiv (255 - (n : Int)) 64), inB (Int.tdiv (255 - (n : Int)) 64) 4, decide (Int.toNat (Int.tdiv (255 - (n : Int)) 64) + 0 < (lst B).length)] z).run = z.run := fun z => ai (by
    simp only [t1, Int.toNat_natCast, Nat.add_zero, cV, List.all_cons, List.all_nil, Bool.and_true, Bool.true_and, Bool.and_eq_true]
    exact ⟨bC (by omega), bJ (by omega), decide_eq_true (by omega)⟩)
  have gb2 : ∀ z : OT (Sum bP aO), (gd [true, true, true, true && inR (Int.tdiv (255 - (n : Int)) 64), inB (Int.tdiv (255 - (n : Int)) 64) 4, decide (Int.toNat (Int.tdiv (255 - (n : Int)) 64) + 0 < (lst B).length)] z).run = z.run := fun z => ai (by
    simp only [t1, Int.toNat_natCast, Nat.add_zero, cV, List.all_cons, List.all_nil, Bool.and_true, Bool.true_and, Bool.and_eq_true]
    exact ⟨bC (by omega), bJ (by omega), decide_eq_true (by omega)⟩)
  have hi : inR ((255 : Int) - (n : Int) - 1) = true := bC (by omega)
  have gi : ∀ z : OT (Sum bP aO), (gd [inR ((255 : Int) - (n : Int) - 1)] z).run = z.run := fun z => ai (by simp only [hi, List.all_cons, List.all_nil, Bool.and_true])
  have gi2 : ∀ z : OT (Sum bP aO), (gd [true, true, true, inR ((255 : Int) - (n : Int) - 1)] z).run = z.run := fun z => ai (by simp only [hi, List.all_cons, List.all_nil, Bool.and_true])
  -- behind the doubling
  have tail : ∀ D : aa, D = ofN (2 * o % M.nat) →
      (OT.br (bu (List.getD (lst B) (Int.toNat (Int.tdiv (255 - (n : Int)) 64) + 0) 0) (((i2u (Int.tmod (255 - (n : Int)) 64)).toNat : Nat) : Int) &&& 1 == 1)
        (gd [true, true, true, true, true] (OT.br (!Nat.blt (tO D A).1.nat M.nat)
          (gd [true, true, true, inR ((255 : Int) - (n : Int) - 1)] (.ok (.inl (((), (), (), (), (), (255 : Int) - (n : Int) - 1, ()), (lst A, lst B, c2, lst M, lst (lb (tO D A).1 M).1, ())))))
          (gd [inR ((255 : Int) - (n : Int) - 1)] (.ok (.inl (((), (), (), (), (), (255 : Int) - (n : Int) - 1, ()), (lst A, lst B, c2, lst M, lst (tO D A).1, ())))))))
        (gd [inR ((255 : Int) - (n : Int) - 1)] (.ok (.inl (((), (), (), (), (), (255 : Int) - (n : Int) - 1, ()), (lst A, lst B, c2, lst M, lst D, ()))))) : OT (Sum bP aO)).run
      = some (.inl (aeB A B c2 M (n + 1) (vh M.nat A.nat B.nat n o))) := fun D hD => by
    rw [hbit, e2]
    rw [e2] at gi gi2
    have hlt := Nat.mod_lt (2 * o) (show 0 < M.nat by omega)
    have hDn : D.nat = 2 * o % M.nat := by rw [hD]; exact gY (by omega)
    have hw : (tO D A).1.nat = 2 * o % M.nat + A.nat := by rw [sum_nat (by omega), hDn]
    unfold vh
    rcases (Bool.eq_false_or_eq_true (AK B.nat (255 - n))).symm with hb | hb
    · rw [hb, hD]
      exact (OT.ap rfl).trans (gi _)
    · rw [hb]
      refine (OT.ao rfl).trans ((ai rfl).trans ?_)
      rcases (Bool.eq_false_or_eq_true (Nat.blt (tO D A).1.nat M.nat)).symm with hc | hc
      · have er := anI hc (by omega)
        rw [hw] at er
        refine (OT.ao (by rw [hc]; rfl)).trans ((gi2 _).trans ?_)
        rw [er]
        rfl
      · have er := anJ hc
        rw [hw] at er
        refine (OT.ap (by rw [hc]; rfl)).trans ((gi _).trans ?_)
        rw [er]
        rfl
  show (IB (255 - (n : Int)) (lst A) (lst B) c2 (lst M) (lst (ofN o))).run = _
  unfold IB
  simp only [am0, am7, cV]
  refine (OT.ao (decide_eq_true (by omega))).trans ((ai rfl).trans ?_)
  rcases (Bool.eq_false_or_eq_true (Nat.blt (tO (ofN o) (ofN o)).1.nat M.nat)).symm with hc | hc
  · have er := anI hc (by omega)
    rw [hz] at er
    exact (OT.ao (b := !Nat.blt (tO (ofN o) (ofN o)).1.nat M.nat) (by rw [hc]; rfl)).trans ((gb2 _).trans (tail _ er))
  · have er := anJ hc
    rw [hz] at er
    exact (OT.ap (b := !Nat.blt (tO (ofN o) (ofN o)).1.nat M.nat) (by rw [hc]; rfl)).trans ((gb _).trans (tail _ er))
def LN (s : bP) : Bool := decide (s.1.2.2.2.2.2.1 = 255 ∧ s.2.1.length = 4 ∧ s.2.2.1.length = 4 ∧ s.2.2.2.2.1.length = 4 ∧ s.2.2.2.2.2.1 = [0, 0, 0, 0] ∧ (elemOf s.2.1).nat < (elemOf s.2.2.2.2.1).nat ∧ 2 * (elemOf s.2.2.2.2.1).nat ≤ 115792089237316195423570985008687907853269984665640564039457584007913129639936)
def Ui (s : bP) : jM := (((), (), ()), (s.2.2.2.1, lst (ofN ((elemOf s.2.1).nat * (elemOf s.2.2.1).nat % (elemOf s.2.2.2.2.1).nat)), ()))
theorem agW : ∀ s : bP, LN s = true → ∃ m e, au qq m s = some e ∧ (AV Ui s).run = some e := by
  rintro ⟨⟨⟨⟩, ⟨⟩, ⟨⟩, ⟨⟩, ⟨⟩, i, ⟨⟩⟩, ⟨l0, l1, c2, l3, l4, ⟨⟩⟩⟩ h
  have h' := of_decide_eq_true h
  dsimp only at h'
  obtain ⟨rfl, h0, h1, h3, rfl, hA, hM⟩ := h'
  obtain ⟨A, rfl⟩ : ∃ a, l0 = lst a := ⟨elemOf l0, (bc h0).symm⟩
  obtain ⟨B, rfl⟩ : ∃ a, l1 = lst a := ⟨elemOf l1, (bc h1).symm⟩
  obtain ⟨M, rfl⟩ : ∃ a, l3 = lst a := ⟨elemOf l3, (bc h3).symm⟩
  have hA : A.nat < M.nat := hA
  have := (bF (T := qq) (aeB A B c2 M) (vh M.nat A.nat B.nat)
    (fun o => (⟨(.exit 0, qp), (((), (), ()), (c2, lst (ofN o), ()))⟩ : aO)) 256 0 (fun _ o => o < M.nat) (by omega) (fun n o hn ho => ⟨amF hn hA ho hM, ?_⟩) (fun o ho => ?_)).1
  · rw [aeA M.nat A.nat B.nat (gn B) 256 (by omega), Nat.sub_self, Nat.pow_zero, Nat.div_one] at this
    obtain ⟨m, hm⟩ := this
    exact ⟨m, _, hm, rfl⟩
  · unfold vh
    cases AK B.nat (255 - n)
    · exact Nat.mod_lt _ (by omega)
    · exact Nat.mod_lt _ (by omega)
  · exact OT.ap (decide_eq_false (by dsimp only [aeB]; omega))
def bX (x : Gc) : Bool := aj x.1.1
def ab5 (x : Gc) : OT fE.Y := .ok ⟨cS, ((aQ (pS x.1.1) x.1.2.1 x.1.2.2.1, ()), ())⟩
theorem acL {s : Int} (hs : aj s = true) (a b : aa) : ofN ((ofP (pS s) a).nat * (ofP (pS s) b).nat % pS s) = aQ (pS s) a b := by
  have hp := fN hs
  unfold ofP aQ
  rw [cM hp, cM hp, ← Nat.mul_mod]
theorem agV : ab Try.prog 62 (fE.aK bX ab5) := WY LN Ui agW _ _ fun x oy hp ho => by
  rw [← ho]
  clear ho
  obtain ⟨⟨s, a, b, ⟨⟩⟩, ⟨⟩⟩ := x
  have hs : aj s = true := hp
  show _ = some (⟨cS, ((aQ (pS s) a b, ()), ())⟩ : fE.Y)
  have little : (s = 0 ∨ s = 1) → (gd [!(KP s == 0)] (.ok ⟨cS, ((⟨(ofP (pS s) a).w0 * (ofP (pS s) b).w0 % KP s, 0, 0, 0⟩, ()), ())⟩) : OT fE.Y).run = some (⟨cS, ((aQ (pS s) a b, ()), ())⟩ : fE.Y) := fun h => by
    obtain ⟨_, _, _, hz⟩ := u2 h
    rw [Xn h]
    exact ai (by simp only [hz, List.all_cons, List.all_nil, Bool.and_true])
  by_cases h0 : s = 0
  · exact (OT.ao (by simpa using h0)).trans ((OT.ao hs).trans ((OT.ao hs).trans (little (.inl h0))))
  · refine (OT.ap (by simpa using h0)).trans ?_
    by_cases h1 : s = 1
    · exact (OT.ao (by simpa using h1)).trans ((OT.ao hs).trans ((OT.ao hs).trans (little (.inr h1))))
    · refine (OT.ap (by simpa using h1)).trans ((OT.ao hs).trans ((OT.ao hs).trans ((OT.ao hs).trans ?_)))
      have hpp := fN hs
      have hA : (ofP (pS s) a).nat < pS s := by
        show (ofN _).nat < _
        rw [cM hpp]
        exact Nat.mod_lt _ hpp.1
      refine (ai ?_).trans ?_
      · simp only [List.all_cons, List.all_nil, Bool.and_true, Bool.and_eq_true]
        exact ⟨decide_eq_true ⟨rfl, rfl, rfl, rfl, rfl, hA, (by show 2 * pS s ≤ _; omega)⟩, rfl, rfl, rfl⟩
      · rw [← acL hs]
        show some (⟨cS, ((elemOf (lay [0, 0, 0, 0] (lst (ofN ((ofP (pS s) a).nat * (ofP (pS s) b).nat % pS s))) 4 0), ()), ())⟩ : fE.Y) = _
        rw [am2 _ _ rfl rfl]
        rfl
def xe : cI := (fE.aK bX ab5)
theorem P6 : ab Try.prog 62 xe := agV
theorem P5 : aJ xe := aA
def tn : Env := az 62 xe yL
theorem mz : aV Try.prog tn := ag P6 rl
theorem zR : aw tn := ac P5 zO
theorem tl : bg Try.prog te tn := aN follows av mz zR
def gW : aq := ⟨[.val false .int, .val true .elem, .val true .elem], [], true, 0, false⟩
abbrev Gm : Type := ((Int) × (aa) × (aa) × Unit) × (Unit)
def uH : Shape := ⟨53, [(0, .val false .int), (4, .ptr 0 0 0), (5, .ptr 1 0 0), (6, .ptr 2 0 0), (7, .ptr 3 0 0), (8, .val false .int)], [(0, .row .u64), (1, .row .u64), (2, .row .u64), (3, .row .u64)], 0, true⟩
abbrev cA : Type := ((Int) × (Unit) × (Unit) × (Unit) × (Unit) × (Int) × Unit) × ((List (UInt64)) × (List (UInt64)) × (List (UInt64)) × (List (UInt64)) × Unit)
def lH : Shape := ⟨53, [(0, .val false .int), (4, .ptr 0 0 0), (5, .ptr 1 0 0), (6, .ptr 2 0 0), (7, .ptr 3 0 0), (8, .val false .int)], [(0, .row .u64), (1, .row .u64), (2, .row .u64), (3, .row .u64)], 0, true⟩
abbrev jS : Type := ((Int) × (Unit) × (Unit) × (Unit) × (Unit) × (Int) × Unit) × ((List (UInt64)) × (List (UInt64)) × (List (UInt64)) × (List (UInt64)) × Unit)
def Uo : SE → Option Shape := ku [(0, lH)] none
def ag6 (a0 : Int) (a8 : Int) (c0 : List (UInt64)) (c1 : List (UInt64)) (c2 : List (UInt64)) (c3 : List (UInt64)) : OT (Sum cA aO) :=
  let z0 : Int := Int.tdiv a8 (64 : Int)
  (.br (decide ((0 : Int) ≤ a8))
  (gd [true && inR z0, inB z0 4, decide (Int.toNat z0 + 0 < List.length c1)] (.br (bu (List.getD c1 (Int.toNat z0 + 0) (0 : UInt64)) (↑(UInt64.toNat (i2u (Int.tmod a8 (64 : Int)))) : Int) &&& (1 : UInt64) == (0 : UInt64))
    (gd [inR (a8 - (1 : Int))] (.ok (.inl ((a0, ((), ((), ((), ((), (a8 - (1 : Int), ())))))), (c0, (c1, (c2, (c3, ()))))))))
    (.ok (.inr ⟨(.exit 0, lH), ((a0, ((), ((), ((), ((), (a8, ())))))), (c0, (c1, (c2, (c3, ())))))⟩))))
  (.ok (.inr ⟨(.exit 0, lH), ((a0, ((), ((), ((), ((), (a8, ())))))), (c0, (c1, (c2, (c3, ())))))⟩)))
def uI (s : cA) : OT (Sum cA aO) := ag6 (s.1.1) (s.1.2.2.2.2.2.1) (s.2.1) (s.2.2.1) (s.2.2.2.1) (s.2.2.2.2.1)
theorem ag2 (s : cA) (Q : Sum cA aO → Prop) : wps te tn ax 1000 (bG (ak Try.f104) 0) (uH.inj s) (cU uH Uo (Q : Sum uH.T aO → Prop)) = (uI s).wpR Q := by kernel_rfl
def AX (g0_0 : cA → jS) (s : cA) : OT aO := (.ok ⟨(.exit 0, lH), g0_0 s⟩)
def uG : Shape := ⟨53, [(0, .val false .int), (4, .ptr 0 0 0), (5, .ptr 1 0 0), (6, .ptr 2 0 0), (7, .ptr 3 0 0), (9, .val false .int)], [(0, .row .u64), (1, .row .u64), (2, .row .u64), (3, .row .u64)], 0, true⟩
abbrev cK : Type := ((Int) × (Unit) × (Unit) × (Unit) × (Unit) × (Int) × Unit) × ((List (UInt64)) × (List (UInt64)) × (List (UInt64)) × (List (UInt64)) × Unit)
def qv : Shape := ⟨53, [(6, .ptr 0 0 0), (7, .ptr 1 0 0)], [(0, .row .u64), (1, .row .u64)], 0, true⟩
abbrev jR : Type := ((Unit) × (Unit) × Unit) × ((List (UInt64)) × (List (UInt64)) × Unit)
def Un : SE → Option Shape := ku [(2, qv)] none
def IG (a0 : Int) (a9 : Int) (c0 : List (UInt64)) (c1 : List (UInt64)) (c2 : List (UInt64)) (c3 : List (UInt64)) : OT (Sum cK aO) :=
  let z0 : Nat := List.length c3
  let z1 : Bool := decide (4 ≤ z0)
  let z2 : aa := { w0 := List.getD c3 0 0, w1 := List.getD c3 1 0, w2 := List.getD c3 2 0, w3 := List.getD c3 3 0 }
  let z3 : Int := Int.tdiv a9 (64 : Int)
  let z4 : Nat := pS a0
  let z5 : aa := aQ z4 z2 z2
  let z6 : List UInt64 := List.set (List.set (List.set (List.set c3 0 z5.w0) 1 z5.w1) 2 z5.w2) 3 z5.w3
  let z7 : Nat := List.length z6
  let z8 : aa := { w0 := List.getD z6 0 0, w1 := List.getD z6 1 0, w2 := List.getD z6 2 0, w3 := List.getD z6 3 0 }
  let z9 : aa := { w0 := List.getD c0 0 0, w1 := List.getD c0 1 0, w2 := List.getD c0 2 0, w3 := List.getD c0 3 0 }
  let z10 : Bool := inR (a9 - (1 : Int))
  let z11 : aa := aQ z4 z8 z9
  (.br (decide ((0 : Int) ≤ a9))
  (gd [z1, z1, bX ((a0, z2, z2, ()), ()), decide ((4 / 1 : Nat) + 0 ≤ z0), true && inR z3, inB z3 4, decide (Int.toNat z3 + 0 < List.length c1)] (.br (bu (List.getD c1 (Int.toNat z3 + 0) (0 : UInt64)) (↑(UInt64.toNat (i2u (Int.tmod a9 (64 : Int)))) : Int) &&& (1 : UInt64) == (1 : UInt64))
    (gd [decide (4 ≤ z7), decide (4 ≤ List.length c0), bX ((a0, z8, z9, ()), ()), decide ((4 / 1 : Nat) + 0 ≤ z7), z10] (.ok (.inl ((a0, ((), ((), ((), ((), (a9 - (1 : Int), ())))))), (c0, (c1, (c2, (List.set (List.set (List.set (List.set z6 0 z11.w0) 1 z11.w1) 2 z11.w2) 3 z11.w3, ()))))))))
    (gd [z10] (.ok (.inl ((a0, ((), ((), ((), ((), (a9 - (1 : Int), ())))))), (c0, (c1, (c2, (z6, ()))))))))))
  (.ok (.inr ⟨(.exit 2, qv), (((), ((), ())), (c2, (c3, ())))⟩)))
def qw (s : cK) : OT (Sum cK aO) := IG (s.1.1) (s.1.2.2.2.2.2.1) (s.2.1) (s.2.2.1) (s.2.2.2.1) (s.2.2.2.2.1)
theorem ag1 (s : cK) (Q : Sum cK aO → Prop) : wps te tn ax 1000 (bG (ak Try.f104) 2) (uG.inj s) (cU uG Un (Q : Sum uG.T aO → Prop)) = (qw s).wpR Q := by kernel_rfl
def AW (g2_2 : cK → jR) (s : cK) : OT aO := (.ok ⟨(.exit 2, qv), g2_2 s⟩)
def qu : ay := ⟨[.val true .elem], [], false⟩
def L4 : SV → Option ay := fun _ => some qu
def Qr (ok0 : cA → Bool) (g0_0 : cA → jS) (ok2 : cK → Bool) (g2_2 : cK → jR) (a0 : Int) (a1 : aa) (a2 : aa) : OT gW.Y :=
  let z0 : Int × PUnit × PUnit × PUnit × PUnit × Int × PUnit := (a0, (), (), (), (), (255 : Int), ())
  let z1 : aa := ofP (pS a0) { w0 := 1, w1 := 0, w2 := 0, w3 := 0 }
  let z2 : (Int × PUnit × PUnit × PUnit × PUnit × Int × PUnit) × List UInt64 × List UInt64 × List UInt64 × List UInt64 × PUnit := (z0, [a1.w0, a1.w1, a1.w2, a1.w3], [a2.w0, a2.w1, a2.w2, a2.w3], [(0 : UInt64), (0 : UInt64), (0 : UInt64), (0 : UInt64)], [z1.w0, z1.w1, z1.w2, z1.w3], ())
  let z3 : (Int × PUnit × PUnit × PUnit × PUnit × Int × PUnit) × List UInt64 × List UInt64 × List UInt64 × List UInt64 × PUnit := g0_0 z2
  let z4 := z3.fst
  let z5 := z3.snd
  let z6 := z5.snd
  let z7 := z6.snd
  let z8 : (Int × PUnit × PUnit × PUnit × PUnit × Int × PUnit) × List UInt64 × List UInt64 × List UInt64 × List UInt64 × PUnit := ((z4.fst, (), (), (), (), z4.snd.snd.snd.snd.snd.fst, ()), z5.fst, z6.fst, z7.fst, z7.snd.fst, ())
  let z9 := (g2_2 z8).snd
  let z10 := z9.snd.fst
  let z11 := z9.fst
  let z12 : List UInt64 := lay z11 z10 4 (0 : UInt64)
  let z13 : (Int × PUnit × PUnit × PUnit × PUnit × Int × PUnit) × List UInt64 × List UInt64 × List UInt64 × List UInt64 × PUnit := (z0, [a1.w0, a1.w1, a1.w2, a1.w3], [a2.w0, a2.w1, a2.w2, a2.w3], [(0 : UInt64), (0 : UInt64), (0 : UInt64), (0 : UInt64)], [(0 : UInt64), (0 : UInt64), (0 : UInt64), (0 : UInt64)], ())
  let z14 : (Int × PUnit × PUnit × PUnit × PUnit × Int × PUnit) × List UInt64 × List UInt64 × List UInt64 × List UInt64 × PUnit := g0_0 z13
  let z15 := z14.fst
  let z16 := z14.snd
  let z17 := z16.snd
  let z18 := z17.snd
  let z19 : (Int × PUnit × PUnit × PUnit × PUnit × Int × PUnit) × List UInt64 × List UInt64 × List UInt64 × List UInt64 × PUnit := ((z15.fst, (), (), (), (), z15.snd.snd.snd.snd.snd.fst, ()), z16.fst, z17.fst, z18.fst, z18.snd.fst, ())
  let z20 := (g2_2 z19).snd
  let z21 := z20.snd.fst
  let z22 := z20.fst
  let z23 : List UInt64 := lay z22 z21 4 (0 : UInt64)
  (.br (aj a0)
  (gd [ok0 z2, ok2 z8, decide (4 ≤ List.length z10), decide ((4 / 1 : Nat) + 0 ≤ List.length z11), decide (4 ≤ List.length z12)] (.ok ⟨qu, (({ w0 := List.getD z12 0 0, w1 := List.getD z12 1 0, w2 := List.getD z12 2 0, w3 := List.getD z12 3 0 }, ()), ())⟩))
  (gd [ok0 z13, ok2 z19, decide (4 ≤ List.length z21), decide ((4 / 1 : Nat) + 0 ≤ List.length z22), decide (4 ≤ List.length z23)] (.ok ⟨qu, (({ w0 := List.getD z23 0 0, w1 := List.getD z23 1 0, w2 := List.getD z23 2 0, w3 := List.getD z23 3 0 }, ()), ())⟩)))
theorem als (ok0 : cA → Bool) (g0_0 : cA → jS) (ok2 : cK → Bool) (g2_2 : cK → jR) (x : Gm) (Q : gW.Y → Prop) : wpf te tn (bp 2 (dv uG 2 ok2 (AW g2_2)) (bp 0 (dv uH 0 ok0 (AX g0_0)) ax)) 1000 Try.f104 (gW.inp.inj x).tm (gW.inp.inj x).hp (fnK gW L4 Q) (fun _ _ => False) = (Qr ok0 g0_0 ok2 g2_2 (x.1.1) (x.1.2.1) (x.1.2.2.1)).wpR Q := by kernel_rfl
theorem W8 (ok0 : cA → Bool) (g0_0 : cA → jS) (ok2 : cK → Bool) (g2_2 : cK → jR) (h0 : ∀ s : cA, ok0 s = true → ∃ m e, au (uI) m s = some e ∧ (AX g0_0 s).run = some e) (h2 : ∀ s : cK, ok2 s = true → ∃ m e, au (qw) m s = some e ∧ (AW g2_2 s).run = some e) (pre : Gm → Bool) (F : Gm → OT gW.Y) (hF : ∀ (x : Gm) oy, pre x = true → (F x).run = some oy → (Qr ok0 g0_0 ok2 g2_2 (x.1.1) (x.1.2.1) (x.1.2.2.1)).run = some oy) : ab Try.prog 104 (gW.aK pre F) :=
  aD av mz tl (f := 104) (fn := Try.f104) (c := ak Try.f104) (by kernel_rfl) (by kernel_rfl) (by kernel_rfl) (S := gW) (k := 0) (by kernel_rfl) (fun R hR => (aI (c := (ak Try.f104)) (by kernel_rfl) (id := 2) (by kernel_rfl) (bw av mz tl (sh := uG) hR (xs := Un) (aH (by kernel_rfl) (by kernel_rfl) hR) aW ae (n := 1000) (T := qw) (fun s Q => ag1 s Q) (ok := ok2) (f := AW g2_2) h2) (aI (c := (ak Try.f104)) (by kernel_rfl) (id := 0) (by kernel_rfl) (bw av mz tl (sh := uH) hR (xs := Uo) (aH (by kernel_rfl) (by kernel_rfl) hR) aW ae (n := 1000) (T := uI) (fun s Q => ag2 s Q) (ok := ok0) (f := AX g0_0) h0) ae))) (n := 1000) (sel := L4) (fun v o h => by cases h; rfl) (pre := pre) (F := F) (T := fun x => Qr ok0 g0_0 ok2 g2_2 (x.1.1) (x.1.2.1) (x.1.2.2.1)) (fun x Q => als ok0 g0_0 ok2 g2_2 x Q) hF
theorem IL {p : Nat} : ∀ (n o x k : Nat), k < 2 ^ n → o < p → aiQ p n o x k = o * x ^ k % p
  | 0, o, x, k, hk, ho => by
    have : k = 0 := by omega
    subst this
    show o = _
    rw [Nat.pow_zero, Nat.mul_one, Nat.mod_eq_of_lt ho]
  | n + 1, o, x, k, hk, ho => by
    unfold aiQ
    rw [Nat.pow_succ] at hk
    cases h0 : Nat.beq k 0
    · simp only [cond_false]
      have hsq : (x * x % p) ^ (k / 2) % p = x ^ (2 * (k / 2)) % p := by
        rw [← Nat.pow_mod, Nat.pow_mul, Nat.pow_two]
      cases h1 : Nat.beq (k % 2) 1
      · have h1' : ¬ k % 2 = 1 := fun e => by rw [e] at h1; cases h1
        simp only [cond_false]
        rw [IL n _ _ _ (by omega) ho, Nat.mul_mod, hsq, ← Nat.mul_mod, show 2 * (k / 2) = k by omega]
      · have h1 := Nat.eq_of_beq_eq_true h1
        simp only [cond_true]
        rw [IL n _ _ _ (by omega) (Nat.mod_lt _ (by omega)), Nat.mul_mod, hsq, Nat.mod_mod, ← Nat.mul_mod, Nat.mul_assoc, ← Nat.pow_succ', show (2 * (k / 2)).succ = k by omega]
    · have h0 := Nat.eq_of_beq_eq_true h0
      subst h0
      simp only [cond_true]
      rw [Nat.pow_zero, Nat.mul_one, Nat.mod_eq_of_lt ho]
theorem amx {p : Nat} (hp : 1 < p) (a k : aa) : wA p a k = ofN (a.nat ^ k.nat % p) := by
  rw [JP (by omega), IL 256 1 _ _ (gn k) hp, Nat.one_mul, ← Nat.pow_mod]
theorem apa {b : aa} {k : Nat} (hk : k < 256) : (bu (List.getD (lst b) (Int.toNat (Int.tdiv (k : Int) 64) + 0) 0) (((i2u (Int.tmod (k : Int) 64)).toNat : Nat) : Int) &&& 1 == 1) = AK b.nat k := by
  have h := ajc (b := b) (n := 255 - k) (by omega)
  rw [show (255 : Int) - ((255 - k : Nat) : Int) = (k : Int) by omega, show 255 - (255 - k) = k by omega] at h
  exact h
theorem Wc (x : UInt64) : (x &&& 1 == 0) = !(x &&& 1 == 1) := by
  have h := Sg x
  have e : (x &&& 1).toNat = x.toNat % 2 := by
    rw [UInt64.toNat_and]
    exact Nat.and_two_pow_sub_one_eq_mod x.toNat 1
  have h2 : x.toNat % 2 = 0 ∨ x.toNat % 2 = 1 := by omega
  rcases h2 with h2 | h2
  · have : x &&& 1 = 0 := UInt64.toNat_inj.1 (by rw [e, h2]; rfl)
    rw [this]; rfl
  · have : x &&& 1 = 1 := UInt64.toNat_inj.1 (by rw [e, h2]; rfl)
    rw [this]; rfl
def Wv (e : Nat) : Nat → Int
  | 0 => -1
  | n + 1 => cond (AK e n) (n : Int) (Wv e n)
theorem Kg {e n : Nat} (h : AK e n = false) : e / 2 ^ n % 2 = 0 := by
  unfold AK at h
  have : ¬ e / 2 ^ n % 2 = 1 := fun e => by rw [e] at h; cases h
  omega
theorem Bq (e : Nat) : ∀ n, e / 2 ^ n = 0 → ∃ t : Nat, Wv e n = (t : Int) - 1 ∧ t ≤ n ∧ e / 2 ^ t = 0
  | 0, h => ⟨0, rfl, Nat.le_refl _, h⟩
  | n + 1, h => by
    unfold Wv
    cases hb : AK e n
    · simp only [cond_false]
      have h0 := Kg hb
      have h1 : e / 2 ^ n / 2 = 0 := by rw [Nat.div_div_eq_div_mul, ← Nat.pow_succ]; exact h
      obtain ⟨t, e1, e2, e3⟩ := Bq e n (by omega)
      exact ⟨t, e1, by omega, e3⟩
    · exact ⟨n + 1, by simp only [cond_true]; omega, Nat.le_refl _, h⟩
def FF (s : Int) (A B : aa) (c2 : List UInt64) (O : aa) (i : Int) : cA := ((s, (), (), (), (), i, ()), (lst A, lst B, c2, lst O, ()))
theorem ah2 {B : aa} {k : Nat} (hk : k < 256) {α : Type} (z : OT α) : (gd [true && inR (Int.tdiv (k : Int) 64), inB (Int.tdiv (k : Int) 64) 4, decide (Int.toNat (Int.tdiv (k : Int) 64) + 0 < (lst B).length)] z).run = z.run := by
  have t1 : Int.tdiv (k : Int) 64 = ((k / 64 : Nat) : Int) := by rw [Int.tdiv_eq_ediv_of_nonneg (by omega)]; omega
  refine ai ?_
  simp only [t1, Int.toNat_natCast, Nat.add_zero, cV, List.all_cons, List.all_nil, Bool.and_true, Bool.true_and, Bool.and_eq_true]
  exact ⟨bC (by omega), bJ (by omega), decide_eq_true (by omega)⟩
theorem VH (s : Int) (A B : aa) (c2 : List UInt64) (O : aa) : ∀ n : Nat, n ≤ 256 → ∃ m, au uI m (FF s A B c2 O ((n : Int) - 1)) = some ⟨(.exit 0, lH), FF s A B c2 O (Wv B.nat n)⟩
  | 0, _ => ⟨1, aR (OT.ap (decide_eq_false (by dsimp only [FF]; omega)))⟩
  | n + 1, hn => by
    have e1 : ((n + 1 : Nat) : Int) - 1 = (n : Int) := by omega
    rw [e1]
    have hb := apa (b := B) (k := n) (by omega)
    unfold Wv
    rcases (Bool.eq_false_or_eq_true (AK B.nat n)).symm with h | h
    · obtain ⟨m, hm⟩ := VH s A B c2 O n (by omega)
      rw [h] at hb ⊢
      refine ⟨m + 1, aM ?_ hm⟩
      refine (OT.ao (decide_eq_true (by dsimp only [FF]; omega))).trans ((ah2 (B := B) (k := n) (by omega) _).trans ((OT.ao ?_).trans ((ai ?_).trans rfl)))
      · exact (Wc _).trans (congrArg Bool.not hb)
      · simp only [List.all_cons, List.all_nil, Bool.and_true]
        exact bC (by dsimp only [FF]; omega)
    · rw [h] at hb ⊢
      refine ⟨1, aR ?_⟩
      refine (OT.ao (decide_eq_true (by dsimp only [FF]; omega))).trans ((ah2 (B := B) (k := n) (by omega) _).trans ((OT.ap ?_).trans rfl))
      exact (Wc _).trans (congrArg Bool.not hb)
def L5 (s : cA) : Bool := decide (s.1.2.2.2.2.2.1 = 255 ∧ s.2.1.length = 4 ∧ s.2.2.1.length = 4 ∧ s.2.2.2.2.1.length = 4)
def Uq (s : cA) : jS := ((s.1.1, (), (), (), (), Wv (elemOf s.2.2.1).nat 256, ()), s.2)
theorem ag5 : ∀ s : cA, L5 s = true → ∃ m e, au uI m s = some e ∧ (AX Uq s).run = some e := by
  rintro ⟨⟨s, ⟨⟩, ⟨⟩, ⟨⟩, ⟨⟩, i, ⟨⟩⟩, ⟨l0, l1, c2, l3, ⟨⟩⟩⟩ h
  have h' := of_decide_eq_true h
  dsimp only at h'
  obtain ⟨rfl, h0, h1, h3⟩ := h'
  obtain ⟨A, rfl⟩ : ∃ a, l0 = lst a := ⟨elemOf l0, (bc h0).symm⟩
  obtain ⟨B, rfl⟩ : ∃ a, l1 = lst a := ⟨elemOf l1, (bc h1).symm⟩
  obtain ⟨O, rfl⟩ : ∃ a, l3 = lst a := ⟨elemOf l3, (bc h3).symm⟩
  obtain ⟨m, hm⟩ := VH s A B c2 O 256 (by omega)
  exact ⟨m, _, hm, rfl⟩
theorem amy {s : Int} (hs : aj s = true) (A B : aa) (c2 : List UInt64) (O : aa) {k : Nat} (hk : k < 256) (hO : O = ofN (A.nat ^ (B.nat / 2 ^ (k + 1)) % pS s)) :
    (qw (FF s A B c2 O (k : Int))).run = some (.inl (FF s A B c2 (ofN (A.nat ^ (B.nat / 2 ^ k) % pS s)) ((k : Int) - 1))) := by
  have hp := fN hs
  have hb := apa (b := B) (k := k) hk
  have t1 : Int.tdiv (k : Int) 64 = ((k / 64 : Nat) : Int) := by rw [Int.tdiv_eq_ediv_of_nonneg (by omega)]; omega
  have hOn : O.nat = A.nat ^ (B.nat / 2 ^ (k + 1)) % pS s := by rw [hO]; exact cM hp
  have hi : inR ((k : Int) - 1) = true := bC (by omega)
  have hpre : ∀ x y, bX ((s, x, y, ()), ()) = true := fun _ _ => hs
  have hD : aQ (pS s) O O = ofN (A.nat ^ (2 * (B.nat / 2 ^ (k + 1))) % pS s) := by
    unfold aQ
    rw [hOn, ← Nat.mul_mod, ← Nat.pow_add, ← Nat.two_mul]
  have hq : B.nat / 2 ^ k / 2 = B.nat / 2 ^ (k + 1) := by rw [Nat.div_div_eq_div_mul, ← Nat.pow_succ]
  show (IG s (k : Int) (lst A) (lst B) c2 (lst O)).run = _
  unfold IG
  simp only [am0, am7, cV, hpre, hi]
  refine (OT.ao (decide_eq_true (by omega))).trans ((ai ?_).trans ?_)
  · simp only [t1, Int.toNat_natCast, Nat.add_zero, cV, List.all_cons, List.all_nil, Bool.and_true, Bool.true_and, Bool.and_eq_true]
    exact ⟨rfl, rfl, rfl, bC (by omega), bJ (by omega), decide_eq_true (by omega)⟩
  · rcases (Bool.eq_false_or_eq_true (AK B.nat k)).symm with h | h
    · have h0 := Kg h
      rw [h] at hb
      refine (OT.ap hb).trans ((ai rfl).trans ?_)
      rw [hD, ← hq, show 2 * (B.nat / 2 ^ k / 2) = B.nat / 2 ^ k by omega]
      rfl
    · have h0 : B.nat / 2 ^ k % 2 = 1 := Nat.eq_of_beq_eq_true h
      rw [h] at hb
      refine (OT.ao hb).trans ((ai rfl).trans ?_)
      have e : aQ (pS s) (aQ (pS s) O O) A = ofN (A.nat ^ (B.nat / 2 ^ k) % pS s) := by
        have e2 : (aQ (pS s) O O).nat = A.nat ^ (2 * (B.nat / 2 ^ (k + 1))) % pS s := by rw [hD]; exact cM hp
        show ofN (_ * _ % _) = _
        rw [e2, Nat.mod_mul_mod, ← Nat.pow_succ, ← hq, show (2 * (B.nat / 2 ^ k / 2)).succ = B.nat / 2 ^ k by omega]
      rw [e]
      rfl
theorem VG {s : Int} (hs : aj s = true) (A B : aa) (c2 : List UInt64) : ∀ (n : Nat) (O : aa), n ≤ 256 → O = ofN (A.nat ^ (B.nat / 2 ^ n) % pS s) →
    ∃ m, au qw m (FF s A B c2 O ((n : Int) - 1)) = some ⟨(.exit 2, qv), (((), (), ()), (c2, lst (ofN (A.nat ^ B.nat % pS s)), ()))⟩
  | 0, O, _, hO => by
    rw [Nat.pow_zero, Nat.div_one] at hO
    rw [← hO]
    exact ⟨1, aR (OT.ap (decide_eq_false (by dsimp only [FF]; omega)))⟩
  | n + 1, O, hn, hO => by
    obtain ⟨m, hm⟩ := VG hs A B c2 n (ofN (A.nat ^ (B.nat / 2 ^ n) % pS s)) (by omega) rfl
    rw [show ((n + 1 : Nat) : Int) - 1 = (n : Int) by omega]
    exact ⟨m + 1, aM (amy hs A B c2 O (by omega) hO) hm⟩
def B6 (s : cK) : Bool := aj s.1.1 && decide (s.1.2.2.2.2.2.1 = Wv (elemOf s.2.2.1).nat 256 ∧ s.2.1.length = 4 ∧ s.2.2.1.length = 4 ∧ s.2.2.2.2.1 = lst (ofP (pS s.1.1) ⟨1, 0, 0, 0⟩))
def Up (s : cK) : jR := (((), (), ()), (s.2.2.2.1, lst (ofN ((elemOf s.2.1).nat ^ (elemOf s.2.2.1).nat % pS s.1.1)), ()))
theorem ag4 : ∀ s : cK, B6 s = true → ∃ m e, au qw m s = some e ∧ (AW Up s).run = some e := by
  rintro ⟨⟨s, ⟨⟩, ⟨⟩, ⟨⟩, ⟨⟩, i, ⟨⟩⟩, ⟨l0, l1, c2, l3, ⟨⟩⟩⟩ h
  simp only [B6, Bool.and_eq_true, decide_eq_true_eq] at h
  obtain ⟨hs, rfl, h0, h1, rfl⟩ := h
  obtain ⟨A, rfl⟩ : ∃ a, l0 = lst a := ⟨elemOf l0, (bc h0).symm⟩
  obtain ⟨B, rfl⟩ : ∃ a, l1 = lst a := ⟨elemOf l1, (bc h1).symm⟩
  obtain ⟨t, e1, e2, e3⟩ := Bq B.nat 256 (Nat.div_eq_of_lt (gn B))
  obtain ⟨m, hm⟩ := VG hs A B c2 t (ofP (pS s) ⟨1, 0, 0, 0⟩) e2 (by rw [e3, Nat.pow_zero]; rfl)
  rw [← e1] at hm
  exact ⟨m, _, hm, rfl⟩
theorem anS {s : Int} (h : aj s = true) : 1 < pS s := aiS h
def jQ (x : Gm) : Bool := aj x.1.1
def ach (x : Gm) : OT gW.Y := .ok ⟨qu, ((wA (pS x.1.1) x.1.2.1 x.1.2.2.1, ()), ())⟩
theorem ag3 : ab Try.prog 104 (gW.aK jQ ach) := W8 L5 Uq B6 Up ag5 ag4 _ _ fun x oy hp ho => by
  rw [← ho]
  clear ho
  obtain ⟨⟨s, a, b, ⟨⟩⟩, ⟨⟩⟩ := x
  have hs : aj s = true := hp
  show _ = some (⟨qu, ((wA (pS s) a b, ()), ())⟩ : gW.Y)
  rw [amx (anS hs)]
  refine (OT.ao hs).trans ((ai ?_).trans ?_)
  · simp only [List.all_cons, List.all_nil, Bool.and_true, Bool.and_eq_true]
    refine ⟨decide_eq_true ⟨rfl, rfl, rfl, rfl⟩, ?_, rfl, rfl, rfl⟩
    refine (Bool.and_eq_true _ _).mpr ⟨hs, ?_⟩
    exact decide_eq_true ⟨rfl, rfl, rfl, rfl⟩
  · show some (⟨qu, ((elemOf (lay [0, 0, 0, 0] (lst (ofN (a.nat ^ b.nat % pS s))) 4 0), ()), ())⟩ : gW.Y) = _
    rw [am2 _ _ rfl rfl]
    rfl
def xn : cI := (gW.aK jQ ach)
theorem Qq : ab Try.prog 104 xn := ag3
theorem Qp : aJ xn := aA
def EA : Env := az 104 xn tn
theorem yT : aV Try.prog EA := ag Qq mz
theorem zX : aw EA := ac Qp zR
theorem SI : bg Try.prog te EA := aN follows av yT zX
def iN : aq := ⟨[.val false .int, .val true .elem], [], true, 0, false⟩
abbrev Gg : Type := ((Int) × (aa) × Unit) × (Unit)
def jc : ay := ⟨[.val true .elem, .val false .int], [], false⟩
def LW : SV → Option ay := fun _ => some jc
def Qg (a0 : Int) (a1 : aa) : OT iN.Y :=
  let z0 : Bool := aj a0
  let z1 : Nat := pS a0
  let z2 : aa := ofP z1 a1
  let z3 : aa := { w0 := 0, w1 := 0, w2 := 0, w3 := 0 }
  let z4 : aa := (lb (bQ (Int.toNat a0)).fst { w0 := 2, w1 := 0, w2 := 0, w3 := 0 }).fst
  (.br (z0)
  (.br (z0)
    (.br (z2.w0 == (0 : UInt64) && (z2.w1 == (0 : UInt64) && (z2.w2 == (0 : UInt64) && (z2.w3 == (0 : UInt64) && true))))
      (.ok ⟨jc, ((z3, ((10 : Int), ())), ())⟩)
      (gd [jQ ((a0, a1, z4, ()), ())] (.ok ⟨jc, ((wA z1 a1 z4, ((0 : Int), ())), ())⟩)))
    (.ok ⟨jc, ((z3, ((10 : Int), ())), ())⟩))
  (.ok ⟨jc, ((z3, ((20 : Int), ())), ())⟩))
theorem alq (x : Gg) (Q : iN.Y → Prop) : wpf te EA ax 1000 Try.f108 (iN.inp.inj x).tm (iN.inp.inj x).hp (fnK iN LW Q) (fun _ _ => False) = (Qg (x.1.1) (x.1.2.1)).wpR Q := by kernel_rfl
theorem W5 (pre : Gg → Bool) (F : Gg → OT iN.Y) (hF : ∀ (x : Gg) oy, pre x = true → (F x).run = some oy → (Qg (x.1.1) (x.1.2.1)).run = some oy) : ab Try.prog 108 (iN.aK pre F) :=
  aD av yT SI (f := 108) (fn := Try.f108) (c := ak Try.f108) (by kernel_rfl) (by kernel_rfl) (by kernel_rfl) (S := iN) (k := 0) (by kernel_rfl) (fun R hR => ae) (n := 1000) (sel := LW) (fun v o h => by cases h; rfl) (pre := pre) (F := F) (T := fun x => Qg (x.1.1) (x.1.2.1)) (fun x Q => alq x Q) hF
def B2 (x : Gg) : Bool := aj x.1.1
def aca (x : Gg) : OT iN.Y := .br (Nat.beq (x.1.2.1.nat % pS x.1.1) 0) (.ok ⟨jc, ((⟨0, 0, 0, 0⟩, ((10 : Int), ())), ())⟩) (.ok ⟨jc, ((afG (pS x.1.1) x.1.2.1, ((0 : Int), ())), ())⟩)
theorem agY : ab Try.prog 108 (iN.aK B2 aca) := W5 _ _ fun x oy hp ho => by
  rw [← ho]
  clear ho
  obtain ⟨⟨s, a, ⟨⟩⟩, ⟨⟩⟩ := x
  have hs : aj s = true := hp
  have hz : cr (ofP (pS s) a) = Nat.beq (a.nat % pS s) 0 := SX (fN hs) _
  refine (OT.ao hs).trans ((OT.ao hs).trans ?_)
  show _ = (OT.br (Nat.beq (a.nat % pS s) 0) (.ok ⟨jc, ((⟨0, 0, 0, 0⟩, ((10 : Int), ())), ())⟩) (.ok ⟨jc, ((afG (pS s) a, ((0 : Int), ())), ())⟩) : OT iN.Y).run
  rw [← adz hs, ← hz]
  rcases (Bool.eq_false_or_eq_true (cr (ofP (pS s) a))).symm with h | h
  · refine (OT.ap h).trans (Eq.trans ((ai ?_).trans rfl) (OT.ap (b := cr (ofP (pS s) a)) h).symm)
    simp only [List.all_cons, List.all_nil, Bool.and_true]
    exact hs
  · exact (OT.ao h).trans (OT.ao (b := cr (ofP (pS s) a)) h).symm
def xj : cI := (iN.aK B2 aca)
theorem Qf : ab Try.prog 108 xj := agY
theorem Qe : aJ xj := aA
def Ex : Env := az 108 xj EA
theorem yQ : aV Try.prog Ex := ag Qf yT
theorem zU : aw Ex := ac Qe zX
theorem SH : bg Try.prog te Ex := aN follows av yQ zU
def nM : aq := ⟨[.val false .int, .val true .elem, .val true .elem], [], true, 0, false⟩
abbrev Xb : Type := ((Int) × (aa) × (aa) × Unit) × (Unit)
def B8 : ay := ⟨[.val true .elem], [], false⟩
def Ur : SV → Option ay := fun _ => some B8
def acj (a0 : Int) (a1 : aa) (a2 : aa) : OT nM.Y :=
  let z0 : Nat := pS a0
  let z1 : aa := { w0 := 0, w1 := 0, w2 := 0, w3 := 0 }
  let z2 : aa := afG z0 a2
  (gd [B2 ((a0, a2, ()), ())] (.br (Nat.beq (aa.nat a2 % z0) 0)
  (gd [bX ((a0, a1, z1, ()), ())] (.ok ⟨B8, ((aQ z0 a1 z1, ()), ())⟩))
  (gd [bX ((a0, a1, z2, ()), ())] (.ok ⟨B8, ((aQ z0 a1 z2, ()), ())⟩))))
theorem anO (x : Xb) (Q : nM.Y → Prop) : wpf te Ex ax 1000 Try.f89 (nM.inp.inj x).tm (nM.inp.inj x).hp (fnK nM Ur Q) (fun _ _ => False) = (acj (x.1.1) (x.1.2.1) (x.1.2.2.1)).wpR Q := by kernel_rfl
theorem aci (pre : Xb → Bool) (F : Xb → OT nM.Y) (hF : ∀ (x : Xb) oy, pre x = true → (F x).run = some oy → (acj (x.1.1) (x.1.2.1) (x.1.2.2.1)).run = some oy) : ab Try.prog 89 (nM.aK pre F) :=
  aD av yQ SH (f := 89) (fn := Try.f89) (c := ak Try.f89) (by kernel_rfl) (by kernel_rfl) (by kernel_rfl) (S := nM) (k := 0) (by kernel_rfl) (fun R hR => ae) (n := 1000) (sel := Ur) (fun v o h => by cases h; rfl) (pre := pre) (F := F) (T := fun x => acj (x.1.1) (x.1.2.1) (x.1.2.2.1)) (fun x Q => anO x Q) hF
def byP (p : Nat) (a b : aa) : aa := aQ p a (tM p b)
def AY (x : Xb) : Bool := aj x.1.1
def aiO (x : Xb) : OT nM.Y := .ok ⟨B8, ((byP (pS x.1.1) x.1.2.1 x.1.2.2.1, ()), ())⟩
theorem alt : ab Try.prog 89 (nM.aK AY aiO) := aci _ _ fun x oy hp ho => by
  rw [← ho]
  clear ho
  obtain ⟨⟨s, a, b, ⟨⟩⟩, ⟨⟩⟩ := x
  have hs : aj s = true := hp
  show _ = some (⟨B8, ((byP (pS s) a b, ()), ())⟩ : nM.Y)
  refine (ai ?_).trans ?_
  · simp only [List.all_cons, List.all_nil, Bool.and_true, Bool.and_eq_true]
    exact hs
  · rcases (Bool.eq_false_or_eq_true (Nat.beq (b.nat % pS s) 0)).symm with h | h
    · have e : tM (pS s) b = afG (pS s) b := by unfold tM; rw [h]; rfl
      unfold byP
      rw [e]
      refine (OT.ap h).trans ((ai ?_).trans rfl)
      simp only [List.all_cons, List.all_nil, Bool.and_true]
      exact hs
    · have e : tM (pS s) b = ⟨0, 0, 0, 0⟩ := by unfold tM; rw [h]; rfl
      unfold byP
      rw [e]
      refine (OT.ao h).trans ((ai ?_).trans rfl)
      simp only [List.all_cons, List.all_nil, Bool.and_true]
      exact hs
def B7 : cI := (nM.aK AY aiO)
theorem Xa : ab Try.prog 89 B7 := alt
theorem W9 : aJ B7 := aA
def HL : Env := az 89 B7 Ex
theorem vM : aV Try.prog HL := ag Xa yQ
theorem EB : aw HL := ac W9 zU
theorem HK : bg Try.prog te HL := aN follows av vM EB
def fy : aq := ⟨[.val true .elem], [], true, 0, false⟩
abbrev xm : Type := ((aa) × Unit) × (Unit)
def oC : Shape := ⟨29, [(1, .ptr 0 0 0), (2, .ptr 1 0 0), (3, .ptr 2 0 0), (4, .val false .int)], [(0, .row .u64), (1, .row .u64), (2, .row .u64)], 0, true⟩
abbrev cd : Type := ((Unit) × (Unit) × (Unit) × (Int) × Unit) × ((List (UInt64)) × (List (UInt64)) × (List (UInt64)) × Unit)
def mV : Shape := ⟨29, [(2, .ptr 0 0 0), (3, .ptr 1 0 0)], [(0, .row .u64), (1, .row .u64)], 0, true⟩
abbrev ix : Type := ((Unit) × (Unit) × Unit) × ((List (UInt64)) × (List (UInt64)) × Unit)
def LY : SE → Option Shape := ku [(0, mV)] none
def acg (a4 : Int) (c0 : List (UInt64)) (c1 : List (UInt64)) (c2 : List (UInt64)) : OT (Sum cd aO) :=
  let z0 : Bool := inB a4 4
  let z1 : Nat := List.length c0
  let z2 : List UInt64 := List.set c2 (Int.toNat a4 + 0) (bu (List.getD c0 (Int.toNat a4 + 0) (0 : UInt64)) (1 : Int))
  let z3 : Bool := decide (Int.toNat a4 + 0 < List.length z2)
  let z4 : Bool := inR (a4 + (1 : Int))
  (.br (decide (a4 < (4 : Int)))
  (gd [z0, decide (Int.toNat a4 + 0 < z1), z0, decide (Int.toNat a4 + 0 < List.length c2)] (.br (decide (a4 < (3 : Int)))
    (gd [z0, z3, z4, inB (a4 + (1 : Int)) 4, decide (Int.toNat (a4 + (1 : Int)) + 0 < z1), z0, z3, z4] (.ok (.inl (((), ((), ((), (a4 + (1 : Int), ())))), (c0, (c1, (List.set z2 (Int.toNat a4 + 0) (List.getD z2 (Int.toNat a4 + 0) (0 : UInt64) ||| cD (List.getD c0 (Int.toNat (a4 + (1 : Int)) + 0) (0 : UInt64)) (63 : Int)), ())))))))
    (gd [z4] (.ok (.inl (((), ((), ((), (a4 + (1 : Int), ())))), (c0, (c1, (z2, ())))))))))
  (.ok (.inr ⟨(.exit 0, mV), (((), ((), ())), (c1, (c2, ())))⟩)))
def gh (s : cd) : OT (Sum cd aO) := acg (s.1.2.2.2.1) (s.2.1) (s.2.2.1) (s.2.2.2.1)
theorem acd (s : cd) (Q : Sum cd aO → Prop) : wps te HL ax 1000 (bG (ak Try.f105) 0) (oC.inj s) (cU oC LY (Q : Sum oC.T aO → Prop)) = (gh s).wpR Q := by kernel_rfl
def uF (g0_0 : cd → ix) (s : cd) : OT aO := (.ok ⟨(.exit 0, mV), g0_0 s⟩)
def oD : ay := ⟨[.val true .elem], [], false⟩
def Gj : SV → Option ay := fun _ => some oD
def IF (ok0 : cd → Bool) (g0_0 : cd → ix) (a0 : aa) : OT fy.Y :=
  let z0 : (PUnit × PUnit × PUnit × Int × PUnit) × List UInt64 × List UInt64 × List UInt64 × PUnit := (((), (), (), (0 : Int), ()), [a0.w0, a0.w1, a0.w2, a0.w3], [(0 : UInt64), (0 : UInt64), (0 : UInt64), (0 : UInt64)], [(0 : UInt64), (0 : UInt64), (0 : UInt64), (0 : UInt64)], ())
  let z1 := (g0_0 z0).snd
  let z2 := z1.snd.fst
  let z3 := z1.fst
  let z4 : List UInt64 := lay z3 z2 4 (0 : UInt64)
  (gd [ok0 z0, decide (4 ≤ List.length z2), decide ((4 / 1 : Nat) + 0 ≤ List.length z3), decide (4 ≤ List.length z4)] (.ok ⟨oD, (({ w0 := List.getD z4 0 0, w1 := List.getD z4 1 0, w2 := List.getD z4 2 0, w3 := List.getD z4 3 0 }, ()), ())⟩))
theorem ag0 (ok0 : cd → Bool) (g0_0 : cd → ix) (x : xm) (Q : fy.Y → Prop) : wpf te HL (bp 0 (dv oC 0 ok0 (uF g0_0)) ax) 1000 Try.f105 (fy.inp.inj x).tm (fy.inp.inj x).hp (fnK fy Gj Q) (fun _ _ => False) = (IF ok0 g0_0 (x.1.1)).wpR Q := by kernel_rfl
theorem Qo (ok0 : cd → Bool) (g0_0 : cd → ix) (h0 : ∀ s : cd, ok0 s = true → ∃ m e, au (gh) m s = some e ∧ (uF g0_0 s).run = some e) (pre : xm → Bool) (F : xm → OT fy.Y) (hF : ∀ (x : xm) oy, pre x = true → (F x).run = some oy → (IF ok0 g0_0 (x.1.1)).run = some oy) : ab Try.prog 105 (fy.aK pre F) :=
  aD av vM HK (f := 105) (fn := Try.f105) (c := ak Try.f105) (by kernel_rfl) (by kernel_rfl) (by kernel_rfl) (S := fy) (k := 0) (by kernel_rfl) (fun R hR => (aI (c := (ak Try.f105)) (by kernel_rfl) (id := 0) (by kernel_rfl) (bw av vM HK (sh := oC) hR (xs := LY) (aH (by kernel_rfl) (by kernel_rfl) hR) aW ae (n := 1000) (T := gh) (fun s Q => acd s Q) (ok := ok0) (f := uF g0_0) h0) ae)) (n := 1000) (sel := Gj) (fun v o h => by cases h; rfl) (pre := pre) (F := F) (T := fun x => IF ok0 g0_0 (x.1.1)) (fun x Q => ag0 ok0 g0_0 x Q) hF
def nq (a : aa) (c1 l : List UInt64) (i : Int) : cd := (((), (), (), i, ()), (lst a, c1, l, ()))
theorem aof (a : aa) (c1 : List UInt64) : (gh (nq a c1 [0, 0, 0, 0] 0)).run = some (.inl (nq a c1 [bu a.w0 1 ||| cD a.w1 63, 0, 0, 0] 1)) := rfl
theorem aoe (a : aa) (c1 : List UInt64) (x : UInt64) : (gh (nq a c1 [x, 0, 0, 0] 1)).run = some (.inl (nq a c1 [x, bu a.w1 1 ||| cD a.w2 63, 0, 0] 2)) := rfl
theorem aod (a : aa) (c1 : List UInt64) (x y : UInt64) : (gh (nq a c1 [x, y, 0, 0] 2)).run = some (.inl (nq a c1 [x, y, bu a.w2 1 ||| cD a.w3 63, 0] 3)) := rfl
theorem aoc (a : aa) (c1 : List UInt64) (x y z : UInt64) : (gh (nq a c1 [x, y, z, 0] 3)).run = some (.inl (nq a c1 [x, y, z, bu a.w3 1] 4)) := rfl
theorem aob (a : aa) (c1 l : List UInt64) : (gh (nq a c1 l 4)).run = some (.inr ⟨(.exit 0, mV), (((), (), ()), (c1, l, ()))⟩) := rfl
def Gl (s : cd) : Bool := decide (s.1.2.2.2.1 = 0 ∧ s.2.1.length = 4 ∧ s.2.2.2.1 = [0, 0, 0, 0])
def L3 (s : cd) : ix := (((), (), ()), (s.2.2.1, lst (fm (elemOf s.2.1)), ()))
theorem acf : ∀ s : cd, Gl s = true → ∃ m e, au gh m s = some e ∧ (uF L3 s).run = some e := by
  rintro ⟨⟨⟨⟩, ⟨⟩, ⟨⟩, i, ⟨⟩⟩, ⟨l, c1, c2, ⟨⟩⟩⟩ h
  have h' := of_decide_eq_true h
  dsimp only at h'
  obtain ⟨rfl, hl, rfl⟩ := h'
  obtain ⟨a, rfl⟩ : ∃ a, l = lst a := ⟨elemOf l, (bc hl).symm⟩
  refine ⟨_, _, aM (aof a c1) (aM (aoe a c1 _) (aM (aod a c1 _ _) (aM (aoc a c1 _ _ _) (aR (aob a c1 _))))), ?_⟩
  have e : [bu a.w0 1 ||| cD a.w1 63, bu a.w1 1 ||| cD a.w2 63, bu a.w2 1 ||| cD a.w3 63, bu a.w3 1] = lst (fm a) := by rw [Vd]; rfl
  rw [e]
  rfl
def Gk (_ : xm) : Bool := true
def Um (x : xm) : OT fy.Y := .ok ⟨oD, ((fm x.1.1, ()), ())⟩
theorem ace : ab Try.prog 105 (fy.aK Gk Um) := Qo Gl L3 acf _ _ fun x oy hp ho => by
  rw [← ho]
  clear ho
  obtain ⟨⟨a, ⟨⟩⟩, ⟨⟩⟩ := x
  refine (ai ?_).trans ?_
  · simp only [List.all_cons, List.all_nil, Bool.and_true, Bool.and_eq_true]
    exact ⟨decide_eq_true ⟨rfl, rfl, rfl⟩, rfl, rfl, rfl⟩
  · show some (⟨oD, ((elemOf (lay [0, 0, 0, 0] (lst (fm a)) 4 0), ()), ())⟩ : fy.Y) = some ⟨oD, ((fm a, ()), ())⟩
    rw [am2 _ _ rfl rfl]
    rfl
def sk : cI := (fy.aK Gk Um)
theorem L0 : ab Try.prog 105 sk := ace
theorem LZ : aJ sk := aA
def rp : Env := az 105 sk HL
theorem nD : aV Try.prog rp := ag L0 vM
theorem vL : aw rp := ac LZ EB
theorem zW : bg Try.prog te rp := aN follows av nD vL
def dl : aq := ⟨[.val true .elem, .val false .int], [], true, 0, false⟩
abbrev lG : Type := ((aa) × (Int) × Unit) × (Unit)
def jN : Shape := ⟨14, [(1, .val false .int), (2, .ptr 0 0 0), (4, .ptr 1 0 0), (5, .val false .int)], [(0, .row .u64), (1, .row .u64)], 0, true⟩
abbrev bx : Type := ((Int) × (Unit) × (Unit) × (Int) × Unit) × ((List (UInt64)) × (List (UInt64)) × Unit)
def jd : Shape := ⟨14, [(2, .ptr 0 0 0), (4, .ptr 1 0 0)], [(0, .row .u64), (1, .row .u64)], 0, true⟩
abbrev ft : Type := ((Unit) × (Unit) × Unit) × ((List (UInt64)) × (List (UInt64)) × Unit)
def B4 : SE → Option Shape := ku [(0, jd)] none
def Qn (a1 : Int) (a5 : Int) (c0 : List (UInt64)) (c1 : List (UInt64)) : OT (Sum bx aO) :=
  let z0 : Nat := List.length c0
  let z1 : aa := fm { w0 := List.getD c0 0 0, w1 := List.getD c0 1 0, w2 := List.getD c0 2 0, w3 := List.getD c0 3 0 }
  (.br (decide (a5 < a1))
  (gd [decide (4 ≤ z0), decide ((4 / 1 : Nat) + 0 ≤ z0), inR (a5 + (1 : Int))] (.ok (.inl ((a1, ((), ((), (a5 + (1 : Int), ())))), (List.set (List.set (List.set (List.set c0 0 z1.w0) 1 z1.w1) 2 z1.w2) 3 z1.w3, (c1, ()))))))
  (.ok (.inr ⟨(.exit 0, jd), (((), ((), ())), (c0, (c1, ())))⟩)))
def jP (s : bx) : OT (Sum bx aO) := Qn (s.1.1) (s.1.2.2.2.1) (s.2.1) (s.2.2.1)
theorem Qk (s : bx) (Q : Sum bx aO → Prop) : wps te rp ax 1000 (bG (ak Try.f107) 0) (jN.inj s) (cU jN B4 (Q : Sum jN.T aO → Prop)) = (jP s).wpR Q := by kernel_rfl
def mU (g0_0 : bx → ft) (s : bx) : OT aO := (.ok ⟨(.exit 0, jd), g0_0 s⟩)
def jO : ay := ⟨[.val true .elem], [], false⟩
def zk : SV → Option ay := fun _ => some jO
def xl (ok0 : bx → Bool) (g0_0 : bx → ft) (a0 : aa) (a1 : Int) : OT dl.Y :=
  let z0 : (Int × PUnit × PUnit × Int × PUnit) × List UInt64 × List UInt64 × PUnit := ((a1, (), (), (0 : Int), ()), [a0.w0, a0.w1, a0.w2, a0.w3], [(0 : UInt64), (0 : UInt64), (0 : UInt64), (0 : UInt64)], ())
  let z1 := (g0_0 z0).snd
  let z2 := z1.fst
  let z3 := z1.snd.fst
  let z4 : List UInt64 := lay z3 z2 4 (0 : UInt64)
  (gd [ok0 z0, decide (4 ≤ List.length z2), decide ((4 / 1 : Nat) + 0 ≤ List.length z3), decide (4 ≤ List.length z4)] (.ok ⟨jO, (({ w0 := List.getD z4 0 0, w1 := List.getD z4 1 0, w2 := List.getD z4 2 0, w3 := List.getD z4 3 0 }, ()), ())⟩))
theorem W7 (ok0 : bx → Bool) (g0_0 : bx → ft) (x : lG) (Q : dl.Y → Prop) : wpf te rp (bp 0 (dv jN 0 ok0 (mU g0_0)) ax) 1000 Try.f107 (dl.inp.inj x).tm (dl.inp.inj x).hp (fnK dl zk Q) (fun _ _ => False) = (xl ok0 g0_0 (x.1.1) (x.1.2.1)).wpR Q := by kernel_rfl
theorem IE (ok0 : bx → Bool) (g0_0 : bx → ft) (h0 : ∀ s : bx, ok0 s = true → ∃ m e, au (jP) m s = some e ∧ (mU g0_0 s).run = some e) (pre : lG → Bool) (F : lG → OT dl.Y) (hF : ∀ (x : lG) oy, pre x = true → (F x).run = some oy → (xl ok0 g0_0 (x.1.1) (x.1.2.1)).run = some oy) : ab Try.prog 107 (dl.aK pre F) :=
  aD av nD zW (f := 107) (fn := Try.f107) (c := ak Try.f107) (by kernel_rfl) (by kernel_rfl) (by kernel_rfl) (S := dl) (k := 0) (by kernel_rfl) (fun R hR => (aI (c := (ak Try.f107)) (by kernel_rfl) (id := 0) (by kernel_rfl) (bw av nD zW (sh := jN) hR (xs := B4) (aH (by kernel_rfl) (by kernel_rfl) hR) aW ae (n := 1000) (T := jP) (fun s Q => Qk s Q) (ok := ok0) (f := mU g0_0) h0) ae)) (n := 1000) (sel := zk) (fun v o h => by cases h; rfl) (pre := pre) (F := F) (T := fun x => xl ok0 g0_0 (x.1.1) (x.1.2.1)) (fun x Q => W7 ok0 g0_0 x Q) hF
def zl (s : bx) : Bool := decide (s.1.2.2.2.1 = 0 ∧ 0 ≤ s.1.1 ∧ s.1.1 ≤ 1000000 ∧ s.2.1.length = 4)
def B5 (s : bx) : ft := (((), (), ()), (lst (eW (elemOf s.2.1) s.1.1.toNat), s.2.2.1, ()))
theorem Qm : ∀ s : bx, zl s = true → ∃ m e, au jP m s = some e ∧ (mU B5 s).run = some e := by
  rintro ⟨⟨k, ⟨⟩, ⟨⟩, i, ⟨⟩⟩, ⟨l, o, ⟨⟩⟩⟩ h
  have h' := of_decide_eq_true h
  dsimp only at h'
  obtain ⟨rfl, h0, h1, hl⟩ := h'
  obtain ⟨a, rfl⟩ : ∃ a, l = lst a := ⟨elemOf l, (bc hl).symm⟩
  have := (bF (T := jP) (fun i a => (((k, (), (), (i : Int), ()), (lst a, o, ())) : bx)) (fun _ e => fm e)
    (fun a => (⟨(.exit 0, jd), (((), (), ()), (lst a, o, ()))⟩ : aO)) k.toNat a (fun _ _ => True) trivial (fun i a hi _ => ⟨?_, trivial⟩) (fun a _ => ?_)).1
  · rw [sR] at this
    obtain ⟨m, hm⟩ := this
    exact ⟨m, _, hm, rfl⟩
  · refine (OT.ao (decide_eq_true (by dsimp only; omega))).trans ((ai ?_).trans rfl)
    simp only [List.all_cons, List.all_nil, Bool.and_true, Bool.and_eq_true]
    exact ⟨rfl, rfl, bC (by omega)⟩
  · exact OT.ap (decide_eq_false (by dsimp only; omega))
def oB (x : lG) : Bool := decide (0 ≤ x.1.2.1 ∧ x.1.2.1 ≤ 1000000)
def Gi (x : lG) : OT dl.Y := .ok ⟨jO, ((eW x.1.1 x.1.2.1.toNat, ()), ())⟩
theorem Ql : ab Try.prog 107 (dl.aK oB Gi) := IE zl B5 Qm _ _ fun x oy hp ho => by
  rw [← ho]
  clear ho
  obtain ⟨⟨a, k, ⟨⟩⟩, ⟨⟩⟩ := x
  have hp' : 0 ≤ k ∧ k ≤ 1000000 := of_decide_eq_true hp
  refine (ai ?_).trans ?_
  · simp only [List.all_cons, List.all_nil, Bool.and_true, Bool.and_eq_true]
    exact ⟨decide_eq_true ⟨rfl, hp'.1, hp'.2, rfl⟩, rfl, rfl, rfl⟩
  · show some (⟨jO, ((elemOf (lay [0, 0, 0, 0] (lst (eW a k.toNat)) 4 0), ()), ())⟩ : dl.Y) = some ⟨jO, ((eW a k.toNat, ()), ())⟩
    rw [am2 _ _ rfl rfl]
    rfl
def mT : cI := (dl.aK oB Gi)
theorem Fw : ab Try.prog 107 mT := Ql
theorem Fv : aJ mT := aA
def yS : Env := az 107 mT rp
theorem Kz : aV Try.prog yS := ag Fw nD
theorem Ez : aw yS := ac Fv vL
end Go.Proofs.Ytkedomfjjahjnaa

namespace Go.Proofs.Ytkedomfjjahjnaa
namespace Sx
open Go Go.RowKit Go.ChangeShapes Go.WideShapes Go.ChangeAt
section
variable {H : Type} {enc : TypeId × Value → H} {P : Program} {te : TE} (hte : kx P te) {w : World} {sp : Nat → Bool}
include hte
theorem Pv {T e : TypeId} {ti ei : TI} (hT : te T = some ti) (hd : ti.desc = .slice e) (hei : te e = some ei) {ad : Option Addr} {n cap : Nat} {d : DataW H} {ps : List MemPlace}
    (h : DataW.Trod enc P w 0 sp true T (.slice ad n cap) d ps) (hw : ∀ n ∈ d.weights P T, n ≤ reachBytes) : n * ei.bytes ≤ reachBytes := by
  obtain ⟨fuel, hr⟩ := h
  obtain ⟨ds, hu, hds⟩ := (hte T ti hT).desc
  rw [hd] at hds
  simp only at hds
  subst hds
  cases fuel with
  | zero => simp [DataW.trod] at hr
  | succ fuel =>
    have hone : (Value.slice ad n cap).cells.toList = [.slice ad n cap] := rfl
    rw [hone] at hr
    simp only [DataW.trod, hu] at hr
    cases ad with
    | none =>
      rcases n with _ | n
      · rw [Nat.zero_mul]; exact Nat.zero_le _
      · cases cap <;> cases hr
    | some a =>
      simp only at hr
      split at hr
      · simp only [Option.bind_eq_some_iff, Option.map_eq_some_iff] at hr
        obtain ⟨elems, hm, rest, _, hx⟩ := hr
        cases hx
        obtain ⟨m1, _⟩ := xS hm
        rw [List.length_range] at m1
        have hwt := hw ((elems.length + rest.length) * P.bytesOf e) (by simp [DataW.weights, hu])
        rw [Hv hte hei] at hwt
        refine Nat.le_trans (Nat.mul_le_mul_right _ ?_) hwt
        omega
      · cases hr
end
end Sx
end Go.Proofs.Ytkedomfjjahjnaa

namespace Go.Proofs.Ytkedomfjjahjnaa
namespace Sx
open Go
theorem OT.Kh {α β : Type} {f : α → OT β} : ∀ {t : OT α} {a : α} {b : β}, t.run = some a → (f a).run = some b → (t.bind f).run = some b
  | .ok x, a, b, h, h2 => by
    cases h
    exact h2
  | .br c x y, a, b, h, h2 => by
    cases c
    · exact OT.Kh (t := y) h h2
    · exact OT.Kh (t := x) h h2
  | .fail, a, b, h, _ => by cases h
theorem r5 {P : Program} {n : FuncId} {S : aq} {pre pre' : S.T → Bool} {F F' : S.T → OT S.Y} (h : ab P n (S.aK pre F))
    (hw : ∀ x oy, pre' x = true → (F' x).run = some oy → pre x = true ∧ (F x).run = some oy) : ab P n (S.aK pre' F') := by
  refine ⟨fun R w d args vs out hm hr hrun => h.calls R w d args vs out hm hr ?_⟩
  simp only [aq.aK] at hrun ⊢
  split at hrun
  · cases hrun
  · rename_i x hx
    obtain ⟨hp, hrun⟩ := OT.aE hrun
    obtain ⟨oy, h1, h2⟩ := OT.run_bind hrun
    obtain ⟨h3, h4⟩ := hw x oy hp h1
    rw [h3]
    exact OT.Kh h4 h2
end Sx
end Go.Proofs.Ytkedomfjjahjnaa

namespace Go.Proofs.Ytkedomfjjahjnaa
open Sx Go
set_option maxRecDepth 100000
abbrev Uj : aq := gf
def xf (x : zj) : Bool := aj x.1.1
def Uk (x : zj) : OT gf.Y := .ok ⟨jb, (((bQ x.1.1.toNat).1, ((0 : Int), ())), ())⟩
theorem ab6 : ab Try.prog 85 (Uj.aK xf Uk) := r5 (S := gf) Ul fun x oy hp ho => ⟨rfl, (OT.ao (b := aj x.1.1) hp).trans ho⟩
def sj : cI := (Uj.aK xf Uk)
theorem LP : ab Try.prog 85 sj := ab6
theorem LO : aJ sj := aA
def Ky : Env := az 85 sj yS
theorem SF : aV Try.prog Ky := ag LP Kz
theorem Kx : aw Ky := ac LO Ez
abbrev Us : aq := gl
def xq (x : zm) : Bool := aj x.1.1
def Ut (x : zm) : OT gl.Y := .ok ⟨mW, (((bQ x.1.1.toNat).2.1, ((0 : Int), ())), ())⟩
theorem acm : ab Try.prog 106 (Us.aK xq Ut) := r5 (S := gl) Uu fun x oy hp ho => ⟨rfl, (OT.ao (b := aj x.1.1) hp).trans ho⟩
def sn : cI := (Us.aK xq Ut)
theorem L9 : ab Try.prog 106 sn := acm
theorem L8 : aJ sn := aA
def KB : Env := az 106 sn Ky
theorem SJ : aV Try.prog KB := ag L9 SF
theorem KA : aw KB := ac L8 Kx
abbrev abY : aq := jL
def iw (x : LK) : Bool := aj x.1.1
def abZ (x : LK) : OT jL.Y := .ok ⟨lf, ((ofP (pS x.1.1) x.1.2.1, ()), ())⟩
theorem agS : ab Try.prog 54 (abY.aK iw abZ) := r5 (S := jL) ab2 fun x oy hp ho => ⟨rfl, (OT.ao (b := aj x.1.1) hp).trans ho⟩
def xb : cI := (abY.aK iw abZ)
theorem PW : ab Try.prog 54 xb := agS
theorem PV : aJ xb := aA
def Er : Env := az 54 xb KB
theorem yM : aV Try.prog Er := ag PW SJ
theorem zP : aw Er := ac PV KA
theorem SC : bg Try.prog te Er := aN follows av yM zP
def jI : aq := ⟨[], [], true, 0, false⟩
abbrev F3 : Type := (Unit) × (Unit)
def Ir : ay := ⟨[.val true (.prod .elem (.prod .elem .bool))], [], false⟩
def Lu : SV → Option ay := fun _ => some Ir
def PK : OT jI.Y :=
  let z0 : aa := { w0 := 0, w1 := 0, w2 := 0, w3 := 0 }
  (.ok ⟨Ir, (((z0, z0, true), ()), ())⟩)
theorem alb (x : F3) (Q : jI.Y → Prop) : wpf te Er ax 1000 Try.f53 (jI.inp.inj x).tm (jI.inp.inj x).hp (fnK jI Lu Q) (fun _ _ => False) = (PK).wpR Q := by kernel_rfl
theorem WR (pre : F3 → Bool) (F : F3 → OT jI.Y) (hF : ∀ (x : F3) oy, pre x = true → (F x).run = some oy → (PK).run = some oy) : ab Try.prog 53 (jI.aK pre F) :=
  aD av yM SC (f := 53) (fn := Try.f53) (c := ak Try.f53) (by kernel_rfl) (by kernel_rfl) (by kernel_rfl) (S := jI) (k := 0) (by kernel_rfl) (fun R hR => ae) (n := 1000) (sel := Lu) (fun v o h => by cases h; rfl) (pre := pre) (F := F) (T := fun x => PK) (fun x Q => alb x Q) hF
def Lv (_ : F3) : Bool := true
def abG (_ : F3) : OT jI.Y := .ok ⟨Ir, ((aC, ()), ())⟩
theorem agL : ab Try.prog 53 (jI.aK Lv abG) := WR _ _ fun x oy _ ho => ho
def wT : cI := (jI.aK Lv abG)
theorem PJ : ab Try.prog 53 wT := agL
theorem PI : aJ wT := aA
def Eo : Env := az 53 wT Er
theorem yK : aV Try.prog Eo := ag PJ yM
theorem zM : aw Eo := ac PI zP
theorem SB : bg Try.prog te Eo := aN follows av yK zM
def BN : aq := ⟨[.val false .int], [], true, 0, false⟩
abbrev am1 : Type := ((Int) × Unit) × (Unit)
def abK : ay := ⟨[.val true .elem], [], false⟩
def abJ : SV → Option ay := fun _ => some abK
def alc (a0 : Int) : OT BN.Y :=
  (gd [inB a0 4, decide (Int.toNat a0 + 0 < 4)] (.ok ⟨abK, (({ w0 := List.getD [(23 : UInt64), (21 : UInt64), (5 : UInt64), (5 : UInt64)] (Int.toNat a0 + 0) (0 : UInt64), w1 := 0, w2 := 0, w3 := 0 }, ()), ())⟩))
theorem aph (x : am1) (Q : BN.Y → Prop) : wpf te Eo ax 1000 Try.f93 (BN.inp.inj x).tm (BN.inp.inj x).hp (fnK BN abJ Q) (fun _ _ => False) = (alc (x.1.1)).wpR Q := by kernel_rfl
theorem agN (pre : am1 → Bool) (F : am1 → OT BN.Y) (hF : ∀ (x : am1) oy, pre x = true → (F x).run = some oy → (alc (x.1.1)).run = some oy) : ab Try.prog 93 (BN.aK pre F) :=
  aD av yK SB (f := 93) (fn := Try.f93) (c := ak Try.f93) (by kernel_rfl) (by kernel_rfl) (by kernel_rfl) (S := BN) (k := 0) (by kernel_rfl) (fun R hR => ae) (n := 1000) (sel := abJ) (fun v o h => by cases h; rfl) (pre := pre) (F := F) (T := fun x => alc (x.1.1)) (fun x Q => aph x Q) hF
def PM (x : am1) : Bool := aj x.1.1
def anM (x : am1) : OT BN.Y := .ok ⟨abK, ((bS x.1.1, ()), ())⟩
theorem anL : ab Try.prog 93 (BN.aK PM anM) := agN _ _ fun x oy hp ho => by
  rw [← ho]
  clear ho
  obtain ⟨⟨s, ⟨⟩⟩, ⟨⟩⟩ := x
  rcases cu hp with h | h | h | h
  all_goals
    have h : s = _ := h
    subst h
    rfl
def It : cI := (BN.aK PM anM)
theorem abL : ab Try.prog 93 It := anL
theorem abI : aJ It := aA
def afA : Env := az 93 It Eo
theorem Kw : aV Try.prog afA := ag abL yK
theorem HJ : aw afA := ac abI zM
theorem afz : bg Try.prog te afA := aN follows av Kw HJ
def fw : aq := ⟨[.val false .int, .val true .elem], [], true, 0, false⟩
abbrev wU : Type := ((Int) × (aa) × Unit) × (Unit)
def uw : ay := ⟨[.val true .elem], [], false⟩
def F4 : SV → Option ay := fun _ => some uw
def Is (a0 : Int) (a1 : aa) : OT fw.Y :=
  let z0 : Nat := pS a0
  let z1 : aa := aQ z0 a1 a1
  let z2 : aa := aQ z0 a1 z1
  let z3 : aa := bS a0
  (gd [bX ((a0, a1, a1, ()), ()), bX ((a0, a1, z1, ()), ()), PM ((a0, ()), ()), lK ((a0, z2, z3, ()), ())] (.ok ⟨uw, ((n0 z0 z2 z3, ()), ())⟩))
theorem agM (x : wU) (Q : fw.Y → Prop) : wpf te afA ax 1000 Try.f63 (fw.inp.inj x).tm (fw.inp.inj x).hp (fnK fw F4 Q) (fun _ _ => False) = (Is (x.1.1) (x.1.2.1)).wpR Q := by kernel_rfl
theorem PL (pre : wU → Bool) (F : wU → OT fw.Y) (hF : ∀ (x : wU) oy, pre x = true → (F x).run = some oy → (Is (x.1.1) (x.1.2.1)).run = some oy) : ab Try.prog 63 (fw.aK pre F) :=
  aD av Kw afz (f := 63) (fn := Try.f63) (c := ak Try.f63) (by kernel_rfl) (by kernel_rfl) (by kernel_rfl) (S := fw) (k := 0) (by kernel_rfl) (fun R hR => ae) (n := 1000) (sel := F4) (fun v o h => by cases h; rfl) (pre := pre) (F := F) (T := fun x => Is (x.1.1) (x.1.2.1)) (fun x Q => agM x Q) hF
theorem acM (p : Nat) (a b : aa) : aQ p a b = aQ p b a := by unfold aQ; rw [Nat.mul_comm]
def qn (x : wU) : Bool := aj x.1.1
def Uc (x : wU) : OT fw.Y := .ok ⟨uw, ((AD (pS x.1.1) x.1.2.1 (bS x.1.1), ()), ())⟩
theorem abH : ab Try.prog 63 (fw.aK qn Uc) := PL _ _ fun x oy hp ho => by
  rw [← ho]
  clear ho
  obtain ⟨⟨s, a, ⟨⟩⟩, ⟨⟩⟩ := x
  have hs : aj s = true := hp
  show _ = some (⟨uw, ((AD (pS s) a (bS s), ()), ())⟩ : fw.Y)
  unfold AD
  rw [acM _ (aQ (pS s) a a) a]
  refine (ai ?_).trans rfl
  simp only [List.all_cons, List.all_nil, Bool.and_true, Bool.and_eq_true]
  exact ⟨hs, hs, hs, hs⟩
def se : cI := (fw.aK qn Uc)
theorem Lx : ab Try.prog 63 se := abH
theorem Lw : aJ se := aA
def vF : Env := az 63 se afA
theorem tg : aV Try.prog vF := ag Lx Kw
theorem vE : aw vF := ac Lw HJ
theorem OK : bg Try.prog te vF := aN follows av tg vE
def lz : aq := ⟨[.val false .int, .val true (.prod .elem (.prod .elem .bool))], [], true, 0, false⟩
abbrev WO : Type := ((Int) × ((aa × (aa × Bool))) × Unit) × (Unit)
def mP : ay := ⟨[.val false .bool], [], false⟩
def T6 : SV → Option ay := fun _ => some mP
def abE (a0 : Int) (a1 : (aa × (aa × Bool))) : OT lz.Y :=
  let z0 : Int × aa × PUnit := (a0, a1.fst, ())
  let z1 : Nat := pS a0
  let z2 : aa := ofP z1 a1.fst
  let z3 : aa := ofP z1 a1.snd.fst
  let z4 : aa := aQ z1 a1.snd.fst a1.snd.fst
  let z5 : aa := AD z1 a1.fst (bS a0)
  (.br (decide (a0 < (0 : Int)))
  (.ok ⟨mP, ((false, ()), ())⟩)
  (.br (decide ((3 : Int) < a0))
    (.ok ⟨mP, ((false, ()), ())⟩)
    (.br (a1.snd.snd)
      (.ok ⟨mP, ((a1.fst.w0 == (0 : UInt64) && (a1.fst.w1 == (0 : UInt64) && (a1.fst.w2 == (0 : UInt64) && (a1.fst.w3 == (0 : UInt64) && true))) && (a1.snd.fst.w0 == (0 : UInt64) && (a1.snd.fst.w1 == (0 : UInt64) && (a1.snd.fst.w2 == (0 : UInt64) && (a1.snd.fst.w3 == (0 : UInt64) && true))) && (a1.snd.snd == true && true)), ()), ())⟩)
      (gd [iw (z0, ())] (.br (!(z2.w0 == a1.fst.w0 && (z2.w1 == a1.fst.w1 && (z2.w2 == a1.fst.w2 && (z2.w3 == a1.fst.w3 && true)))))
        (.ok ⟨mP, ((false, ()), ())⟩)
        (gd [iw ((a0, a1.snd.fst, ()), ())] (.br (!(z3.w0 == a1.snd.fst.w0 && (z3.w1 == a1.snd.fst.w1 && (z3.w2 == a1.snd.fst.w2 && (z3.w3 == a1.snd.fst.w3 && true)))))
          (.ok ⟨mP, ((false, ()), ())⟩)
          (gd [bX ((a0, a1.snd.fst, a1.snd.fst, ()), ()), qn (z0, ())] (.ok ⟨mP, ((z4.w0 == z5.w0 && (z4.w1 == z5.w1 && (z4.w2 == z5.w2 && (z4.w3 == z5.w3 && true))), ()), ())⟩)))))))))
theorem anK (x : WO) (Q : lz.Y → Prop) : wpf te vF ax 1000 Try.f22 (lz.inp.inj x).tm (lz.inp.inj x).hp (fnK lz T6 Q) (fun _ _ => False) = (abE (x.1.1) (x.1.2.1)).wpR Q := by kernel_rfl
theorem abD (pre : WO → Bool) (F : WO → OT lz.Y) (hF : ∀ (x : WO) oy, pre x = true → (F x).run = some oy → (abE (x.1.1) (x.1.2.1)).run = some oy) : ab Try.prog 22 (lz.aK pre F) :=
  aD av tg OK (f := 22) (fn := Try.f22) (c := ak Try.f22) (by kernel_rfl) (by kernel_rfl) (by kernel_rfl) (S := lz) (k := 0) (by kernel_rfl) (fun R hR => ae) (n := 1000) (sel := T6) (fun v o h => by cases h; rfl) (pre := pre) (F := F) (T := fun x => abE (x.1.1) (x.1.2.1)) (fun x Q => anK x Q) hF
theorem UC {s : Int} (hs : aj s = true) (x : aa) : eqE (ofP (pS s) x) x = Nat.blt x.nat (pS s) := by
  have hp := fN hs
  have hlt := Nat.mod_lt x.nat hp.1
  rw [amB, show (ofP (pS s) x).nat = x.nat % pS s from cM hp]
  rcases (Bool.eq_false_or_eq_true (Nat.blt x.nat (pS s))).symm with h | h
  · rw [h]
    have hle := acH h
    cases hb : Nat.beq (x.nat % pS s) x.nat
    · rfl
    · have := Nat.eq_of_beq_eq_true hb
      omega
  · rw [h, Nat.mod_eq_of_lt (cL h)]
    exact Nat.beq_refl _
def T7 (_ : WO) : Bool := true
def aiM (x : WO) : OT lz.Y := .ok ⟨mP, ((onB x.1.1 x.1.2.1, ()), ())⟩
theorem ak9 : ab Try.prog 22 (lz.aK T7 aiM) := abD _ _ fun x oy _ ho => by
  rw [← ho]
  clear ho
  obtain ⟨⟨c, ⟨X, Y, i⟩, ⟨⟩⟩, ⟨⟩⟩ := x
  show _ = some (⟨mP, ((onB c (X, Y, i), ()), ())⟩ : lz.Y)
  rcases (Bool.eq_false_or_eq_true (aj c)).symm with hs | hs
  · have e : onB c (X, Y, i) = false := by unfold onB; rw [hs]; rfl
    rw [e]
    by_cases h0 : c < 0
    · exact OT.ao (decide_eq_true h0)
    · refine (OT.ap (decide_eq_false h0)).trans (OT.ao (decide_eq_true ?_))
      show (3 : Int) < c
      simp only [aj, Bool.and_eq_false_iff, decide_eq_false_iff_not] at hs
      omega
  · have hc : 0 ≤ c ∧ c < 4 := by simpa [aj] using hs
    refine (OT.ap (decide_eq_false (by show ¬ c < 0; omega))).trans ((OT.ap (decide_eq_false (by show ¬ (3 : Int) < c; omega))).trans ?_)
    have hx := UC hs X
    have hy := UC hs Y
    have gd1 : ∀ (a : aa) (z : OT lz.Y), (gd [iw ((c, a, ()), ())] z).run = z.run := fun a z => ai (by simp only [List.all_cons, List.all_nil, Bool.and_true]; exact hs)
    cases i
    · refine (OT.ap rfl).trans ((gd1 X _).trans ?_)
      rcases (Bool.eq_false_or_eq_true (Nat.blt X.nat (pS c))).symm with h1 | h1
      · have e : onB c (X, Y, false) = false := by unfold onB; rw [hs, h1]; rfl
        rw [e]
        rw [h1] at hx
        exact OT.ao (b := !eqE (ofP (pS c) X) X) (by rw [hx]; rfl)
      · have hx1 := hx
        rw [h1] at hx1
        refine (OT.ap (b := !eqE (ofP (pS c) X) X) (by rw [hx1]; rfl)).trans ((gd1 Y _).trans ?_)
        rcases (Bool.eq_false_or_eq_true (Nat.blt Y.nat (pS c))).symm with h2 | h2
        · have e : onB c (X, Y, false) = false := by unfold onB; rw [hs, h1, h2]; rfl
          rw [e]
          rw [h2] at hy
          exact OT.ao (b := !eqE (ofP (pS c) Y) Y) (by rw [hy]; rfl)
        · have hy1 := hy
          rw [h2] at hy1
          have e : onB c (X, Y, false) = eqE (aQ (pS c) Y Y) (AD (pS c) X (bS c)) := by unfold onB; rw [hs, h1, h2]; rfl
          rw [e]
          refine (OT.ap (b := !eqE (ofP (pS c) Y) Y) (by rw [hy1]; rfl)).trans ((ai ?_).trans rfl)
          simp only [List.all_cons, List.all_nil, Bool.and_true, Bool.and_eq_true]
          exact ⟨hs, hs⟩
    · have e : onB c (X, Y, true) = (cr X && (cr Y && true)) := by unfold onB; rw [hs]; rfl
      rw [e]
      exact OT.ao rfl
def BL : cI := (lz.aK T7 aiM)
theorem WN : ab Try.prog 22 BL := ak9
theorem WM : aJ BL := aA
def OJ : Env := az 22 BL vF
theorem Em : aV Try.prog OJ := ag WN tg
theorem En : aw OJ := ac WM vE
theorem Ze : bg Try.prog te OJ := aN follows av Em En
end Go.Proofs.Ytkedomfjjahjnaa
