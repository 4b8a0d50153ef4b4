/- A symbolic machine for Go code over plain data, and functions of the program as it shows them. No statement is proved in this file. -/
import Derived.KernelRfl
import Derived.Test.YtohjofabochgfaaGreatXe
set_option linter.unusedSimpArgs false
set_option linter.unusedVariables false
set_option linter.unusedSectionVars false

namespace Go.Proofs.YtohjofabochgfaaGreat
open Sx Go
set_option maxRecDepth 100000
def dh : ao := ⟨[.val true ajl, .val false (.list .elem), .val true .elem], [], true, 0, false⟩
abbrev oA : Type := (((Int × (Int × (List ((ab × (ab × Bool))) × ((ab × (ab × Bool)) × (ab × (ab × Bool))))))) × (List (ab)) × (ab) × Unit) × (Unit)
def kq : Shape := ⟨54, [(3, .ptr 0 0 0), (6, .ptr 1 0 0), (9, .own 2), (30, .val false (.list .elem)), (31, .val false .int), (32, .val false .int)], [(0, .cells [.val false .int, .val false .int, .val false (.list (.prod .elem (.prod .elem .bool))), .val false .u64, .val false .u64, .val false .u64, .val false .u64, .val false .u64, .val false .u64, .val false .u64, .val false .u64, .val false .bool, .val false .u64, .val false .u64, .val false .u64, .val false .u64, .val false .u64, .val false .u64, .val false .u64, .val false .u64, .val false .bool]), (1, .cells [.val false .u64, .val false .u64, .val false .u64, .val false .u64, .val false .u64, .val false .u64, .val false .u64, .val false .u64, .val false .bool]), (2, .row (.prod .elem (.prod .elem (.prod .elem .bool))))], 0, true⟩
abbrev bA : Type := ((Unit) × (Unit) × (Unit) × (List (ab)) × (Int) × (Int) × Unit) × (((Int) × (Int) × (List ((ab × (ab × Bool)))) × (UInt64) × (UInt64) × (UInt64) × (UInt64) × (UInt64) × (UInt64) × (UInt64) × (UInt64) × (Bool) × (UInt64) × (UInt64) × (UInt64) × (UInt64) × (UInt64) × (UInt64) × (UInt64) × (UInt64) × (Bool) × Unit) × ((UInt64) × (UInt64) × (UInt64) × (UInt64) × (UInt64) × (UInt64) × (UInt64) × (UInt64) × (Bool) × Unit) × (List ((ab × (ab × (ab × Bool))))) × Unit)
def jI : Shape := ⟨54, [(3, .ptr 0 0 0), (6, .ptr 1 0 0), (9, .own 2)], [(0, .cells [.val false .int, .val false .int, .val false (.list (.prod .elem (.prod .elem .bool))), .val false .u64, .val false .u64, .val false .u64, .val false .u64, .val false .u64, .val false .u64, .val false .u64, .val false .u64, .val false .bool, .val false .u64, .val false .u64, .val false .u64, .val false .u64, .val false .u64, .val false .u64, .val false .u64, .val false .u64, .val false .bool]), (1, .cells [.val false .u64, .val false .u64, .val false .u64, .val false .u64, .val false .u64, .val false .u64, .val false .u64, .val false .u64, .val false .bool]), (2, .row (.prod .elem (.prod .elem (.prod .elem .bool))))], 0, true⟩
abbrev fm : Type := ((Unit) × (Unit) × (Unit) × Unit) × (((Int) × (Int) × (List ((ab × (ab × Bool)))) × (UInt64) × (UInt64) × (UInt64) × (UInt64) × (UInt64) × (UInt64) × (UInt64) × (UInt64) × (Bool) × (UInt64) × (UInt64) × (UInt64) × (UInt64) × (UInt64) × (UInt64) × (UInt64) × (UInt64) × (Bool) × Unit) × ((UInt64) × (UInt64) × (UInt64) × (UInt64) × (UInt64) × (UInt64) × (UInt64) × (UInt64) × (Bool) × Unit) × (List ((ab × (ab × (ab × Bool))))) × Unit)
def DQ : SE → Option Shape := jt [(0, jI)] none
def UT (a30 : List (ab)) (a31 : Int) (a32 : Int) (c0_0 : Int) (c0_1 : Int) (c0_2 : List ((ab × (ab × Bool)))) (c0_3 : UInt64) (c0_4 : UInt64) (c0_5 : UInt64) (c0_6 : UInt64) (c0_7 : UInt64) (c0_8 : UInt64) (c0_9 : UInt64) (c0_10 : UInt64) (c0_11 : Bool) (c0_12 : UInt64) (c0_13 : UInt64) (c0_14 : UInt64) (c0_15 : UInt64) (c0_16 : UInt64) (c0_17 : UInt64) (c0_18 : UInt64) (c0_19 : UInt64) (c0_20 : Bool) (c1_0 : UInt64) (c1_1 : UInt64) (c1_2 : UInt64) (c1_3 : UInt64) (c1_4 : UInt64) (c1_5 : UInt64) (c1_6 : UInt64) (c1_7 : UInt64) (c1_8 : Bool) (c2 : List ((ab × (ab × (ab × Bool))))) : OT (Sum bA aL) :=
  let z0 : Nat := Int.toNat a32
  let z1 : ab := { w0 := 0, w1 := 0, w2 := 0, w3 := 0 }
  (.br (decide (a32 < a31))
  (gd [inB a32 (List.length a30), inB a32 (List.length c0_2), decide ((List.length c2 + 1) * 104 ≤ 140737488355328), inR (a32 + (1 : Int))] (.ok (.inl (((), ((), ((), (a30, (a31, (a32 + (1 : Int), ())))))), ((c0_0, (c0_1, (c0_2, (c0_3, (c0_4, (c0_5, (c0_6, (c0_7, (c0_8, (c0_9, (c0_10, (c0_11, (c0_12, (c0_13, (c0_14, (c0_15, (c0_16, (c0_17, (c0_18, (c0_19, (c0_20, ()))))))))))))))))))))), ((c1_0, (c1_1, (c1_2, (c1_3, (c1_4, (c1_5, (c1_6, (c1_7, (c1_8, ()))))))))), (c2 ++ [(List.getD a30 z0 z1, List.getD c0_2 z0 (z1, z1, false))], ())))))))
  (.ok (.inr ⟨(.exit 0, jI), (((), ((), ((), ()))), ((c0_0, (c0_1, (c0_2, (c0_3, (c0_4, (c0_5, (c0_6, (c0_7, (c0_8, (c0_9, (c0_10, (c0_11, (c0_12, (c0_13, (c0_14, (c0_15, (c0_16, (c0_17, (c0_18, (c0_19, (c0_20, ()))))))))))))))))))))), ((c1_0, (c1_1, (c1_2, (c1_3, (c1_4, (c1_5, (c1_6, (c1_7, (c1_8, ()))))))))), (c2, ()))))⟩)))
def kr (s : bA) : OT (Sum bA aL) := UT (s.1.2.2.2.1) (s.1.2.2.2.2.1) (s.1.2.2.2.2.2.1) (s.2.1.1) (s.2.1.2.1) (s.2.1.2.2.1) (s.2.1.2.2.2.1) (s.2.1.2.2.2.2.1) (s.2.1.2.2.2.2.2.1) (s.2.1.2.2.2.2.2.2.1) (s.2.1.2.2.2.2.2.2.2.1) (s.2.1.2.2.2.2.2.2.2.2.1) (s.2.1.2.2.2.2.2.2.2.2.2.1) (s.2.1.2.2.2.2.2.2.2.2.2.2.1) (s.2.1.2.2.2.2.2.2.2.2.2.2.2.1) (s.2.1.2.2.2.2.2.2.2.2.2.2.2.2.1) (s.2.1.2.2.2.2.2.2.2.2.2.2.2.2.2.1) (s.2.1.2.2.2.2.2.2.2.2.2.2.2.2.2.2.1) (s.2.1.2.2.2.2.2.2.2.2.2.2.2.2.2.2.2.1) (s.2.1.2.2.2.2.2.2.2.2.2.2.2.2.2.2.2.2.1) (s.2.1.2.2.2.2.2.2.2.2.2.2.2.2.2.2.2.2.2.1) (s.2.1.2.2.2.2.2.2.2.2.2.2.2.2.2.2.2.2.2.2.1) (s.2.1.2.2.2.2.2.2.2.2.2.2.2.2.2.2.2.2.2.2.2.1) (s.2.1.2.2.2.2.2.2.2.2.2.2.2.2.2.2.2.2.2.2.2.2.1) (s.2.2.1.1) (s.2.2.1.2.1) (s.2.2.1.2.2.1) (s.2.2.1.2.2.2.1) (s.2.2.1.2.2.2.2.1) (s.2.2.1.2.2.2.2.2.1) (s.2.2.1.2.2.2.2.2.2.1) (s.2.2.1.2.2.2.2.2.2.2.1) (s.2.2.1.2.2.2.2.2.2.2.2.1) (s.2.2.2.1)
theorem UQ (s : bA) (Q : Sum bA aL → Prop) : wps te o6 ax 1000 (bE (al Tryz.f39) 0) (kq.inj s) (cM kq DQ (Q : Sum kq.T aL → Prop)) = (kr s).wpR Q := by kernel_rfl
def oz (g0_0 : bA → fm) (s : bA) : OT aL := (.ok ⟨(.exit 0, jI), g0_0 s⟩)
def cA : aw := ⟨[.val true (.prod .elem (.prod .elem .bool)), .val false .int], [], false⟩
def zB : SV → Option aw := fun _ => some cA
def sb (ok0 : bA → Bool) (g0_0 : bA → fm) (a0 : (Int × (Int × (List ((ab × (ab × Bool))) × ((ab × (ab × Bool)) × (ab × (ab × Bool))))))) (a1 : List (ab)) (a2 : ab) : OT dh.Y :=
  let z0 : Int := fL a0
  let z1 : ab := { w0 := 0, w1 := 0, w2 := 0, w3 := 0 }
  let z2 : ab × ab × Bool := (z1, z1, false)
  let z3 : Int := (↑(List.length a1) : Int)
  let z4 : (PUnit × PUnit × PUnit × List ab × Int × Int × PUnit) × (Int × Int × List (ab × ab × Bool) × UInt64 × UInt64 × UInt64 × UInt64 × UInt64 × UInt64 × UInt64 × UInt64 × Bool × UInt64 × UInt64 × UInt64 × UInt64 × UInt64 × UInt64 × UInt64 × UInt64 × Bool × PUnit) × (UInt64 × UInt64 × UInt64 × UInt64 × UInt64 × UInt64 × UInt64 × UInt64 × Bool × PUnit) × List (ab × ab × ab × Bool) × PUnit := (((), (), (), a1, z3, (0 : Int), ()), (a0.fst, a0.snd.fst, a0.snd.snd.fst, a0.snd.snd.snd.fst.fst.w0, a0.snd.snd.snd.fst.fst.w1, a0.snd.snd.snd.fst.fst.w2, a0.snd.snd.snd.fst.fst.w3, a0.snd.snd.snd.fst.snd.fst.w0, a0.snd.snd.snd.fst.snd.fst.w1, a0.snd.snd.snd.fst.snd.fst.w2, a0.snd.snd.snd.fst.snd.fst.w3, a0.snd.snd.snd.fst.snd.snd, a0.snd.snd.snd.snd.fst.w0, a0.snd.snd.snd.snd.fst.w1, a0.snd.snd.snd.snd.fst.w2, a0.snd.snd.snd.snd.fst.w3, a0.snd.snd.snd.snd.snd.fst.w0, a0.snd.snd.snd.snd.snd.fst.w1, a0.snd.snd.snd.snd.snd.fst.w2, a0.snd.snd.snd.snd.snd.fst.w3, a0.snd.snd.snd.snd.snd.snd, ()), ((0 : UInt64), (0 : UInt64), (0 : UInt64), (0 : UInt64), (0 : UInt64), (0 : UInt64), (0 : UInt64), (0 : UInt64), false, ()), [(a2, a0.snd.snd.snd.fst)], ())
  let z5 := (g0_0 z4).snd
  let z6 := z5.fst.fst
  let z7 := z5.snd.snd.fst
  (gd [ks ((a0, ()), ())] (.br (!z0 == (0 : Int))
  (.ok ⟨cA, ((z2, (z0, ())), ())⟩)
  (.br (decide ((↑(List.length a0.snd.snd.fst) : Int) < z3))
    (.ok ⟨cA, ((z2, ((50 : Int), ())), ())⟩)
    (gd [ok0 z4] (.br (ak z6)
      (.br (decide (List.length z7 ≤ 100000))
        (.br (mh z6 z7)
          (.ok ⟨cA, ((Ro z6 (LG z6 z7), ((0 : Int), ())), ())⟩)
          (.ok ⟨cA, ((z2, ((41 : Int), ())), ())⟩))
        (.ok ⟨cA, ((z2, ((50 : Int), ())), ())⟩))
      (.ok ⟨cA, ((z2, ((40 : Int), ())), ())⟩))))))
theorem ZQ (ok0 : bA → Bool) (g0_0 : bA → fm) (x : oA) (Q : dh.Y → Prop) : wpf te o6 (bg 0 (db kq 0 ok0 (oz g0_0)) ax) 1000 Tryz.f39 (dh.inp.inj x).tm (dh.inp.inj x).hp (fnK dh zB Q) (fun _ _ => False) = (sb ok0 g0_0 (x.1.1) (x.1.2.1) (x.1.2.2.1)).wpR Q := by kernel_rfl
theorem Jk (ok0 : bA → Bool) (g0_0 : bA → fm) (h0 : ∀ s : bA, ok0 s = true → ∃ m e, aq (kr) m s = some e ∧ (oz g0_0 s).run = some e) (pre : oA → Bool) (F : oA → OT dh.Y) (hF : ∀ (x : oA) oy, pre x = true → (F x).run = some oy → (sb ok0 g0_0 (x.1.1) (x.1.2.1) (x.1.2.2.1)).run = some oy) : ac Tryz.prog 39 (dh.aD pre F) :=
  aB ar lQ wT (f := 39) (fn := Tryz.f39) (c := al Tryz.f39) (by kernel_rfl) (by kernel_rfl) (by kernel_rfl) (S := dh) (k := 0) (by kernel_rfl) (fun R hR => (aC (c := (al Tryz.f39)) (by kernel_rfl) (id := 0) (by kernel_rfl) (bo ar lQ wT (sh := kq) hR (xs := DQ) (aE (by kernel_rfl) (by kernel_rfl) hR) aS ag (n := 1000) (T := kr) (fun s Q => UQ s Q) (ok := ok0) (f := oz g0_0) h0) ag)) (n := 1000) (sel := zB) (fun v o h => by cases h; rfl) (pre := pre) (F := F) (T := fun x => sb ok0 g0_0 (x.1.1) (x.1.2.1) (x.1.2.2.1)) (fun x Q => ZQ ok0 g0_0 x Q) hF
theorem abN {p : akF} (h : (fL p == 0) = true) : p.2.2.1.length ≤ 32 := by
  unfold fL at h
  cases h1 : ak p.1
  · rw [h1] at h; cases h
  · rw [h1] at h
    by_cases h2 : p.2.1 < 0
    · rw [decide_eq_true h2] at h; cases h
    · rw [decide_eq_false h2] at h
      by_cases h3 : 5 < p.2.1
      · rw [decide_eq_true h3] at h; cases h
      · rw [decide_eq_false h3] at h
        cases h4 : (p.2.2.1.length : Int) == LH 1 p.2.1
        · rw [h4] at h; cases h
        · rw [beq_iff_eq] at h4
          have h6 : LH 1 p.2.1 ≤ 32 := by
            have : p.2.1 = 0 ∨ p.2.1 = 1 ∨ p.2.1 = 2 ∨ p.2.1 = 3 ∨ p.2.1 = 4 ∨ p.2.1 = 5 := by omega
            rcases this with e | e | e | e | e | e <;> rw [e] <;> decide
          omega
def akq (G : List Pt) (l : List ab) (k : Nat) (o : List Tm) : List Tm := o ++ [(l.getD k ⟨0, 0, 0, 0⟩, G.getD k sg)]
def akp (p : akF) (l : List ab) (b : ab) : List Tm := upto (akq p.2.2.1 l) [(b, p.2.2.2.1)] l.length
def qf (s : bA) : Bool := decide (s.1.2.2.2.2.1 = (s.1.2.2.2.1.length : Int) ∧ s.1.2.2.2.2.2.1 = 0 ∧ s.1.2.2.2.1.length ≤ s.2.1.2.2.1.length ∧ s.2.1.2.2.1.length ≤ 32 ∧ s.2.2.2.1.length = 1)
def u6 (s : bA) : fm := (((), (), (), ()), (s.2.1, s.2.2.1, upto (akq s.2.1.2.2.1 s.1.2.2.2.1) s.2.2.2.1 s.1.2.2.2.1.length, ()))
theorem US : ∀ s : bA, qf s = true → ∃ m e, aq kr m s = some e ∧ (oz u6 s).run = some e := by
  rintro ⟨⟨⟨⟩, ⟨⟩, ⟨⟩, l, n, i, ⟨⟩⟩, ⟨q, t, o, ⟨⟩⟩⟩ h
  have h' := of_decide_eq_true h
  dsimp only at h'
  obtain ⟨rfl, rfl, hl, hG, ho⟩ := h'
  obtain ⟨u, rfl⟩ : ∃ u, o = [u] := by
    match o, ho with
    | [u], _ => exact ⟨u, rfl⟩
  have := (bN (T := kr) (fun k o => ((((), (), (), l, (l.length : Int), (k : Int), ()), (q, t, o, ())) : bA)) (akq q.2.2.1 l)
    (fun o => (⟨(.exit 0, jI), (((), (), (), ()), (q, t, o, ()))⟩ : aL)) l.length [u] (fun k o => o.length = k + 1) rfl (fun k o hk hq => ⟨?_, ?_⟩) (fun o _ => ?_)).1
  · obtain ⟨m, hm⟩ := this
    exact ⟨m, _, hm, rfl⟩
  · have hq : o.length = k + 1 := hq
    refine (OT.ap (decide_eq_true (by dsimp only; omega))).trans ((aj ?_).trans rfl)
    simp only [List.all_cons, List.all_nil, Bool.and_true, Bool.and_eq_true]
    exact ⟨bF (by omega), bF (by omega), decide_eq_true (by omega), bz (by omega)⟩
  · show (o ++ [_]).length = _
    rw [List.length_append, show o.length = k + 1 from hq]
    rfl
  · exact OT.au (decide_eq_false (by dsimp only; omega))
def al2 (p : akF) (l : List ab) (b : ab) : Pt × Int := cond (!(fL p == 0)) (sg, fL p) (cond (decide ((p.2.2.1.length : Int) < (l.length : Int))) (sg, 50)
  (cond (ak p.1) (cond (decide ((akp p l b).length ≤ 100000)) (cond (mh p.1 (akp p l b)) (Ro p.1 (LG p.1 (akp p l b)), 0) (sg, 41)) (sg, 50)) (sg, 40)))
def zC (x : oA) : Bool := decide (x.1.1.2.2.1.length ≤ 140737488355328)
def Jl (x : oA) : OT dh.Y := .ok ⟨cA, (((al2 x.1.1 x.1.2.1 x.1.2.2.1).1, ((al2 x.1.1 x.1.2.1 x.1.2.2.1).2, ())), ())⟩
theorem UR : ac Tryz.prog 39 (dh.aD zC Jl) := Jk qf u6 US _ _ fun x oy hp ho => by
  rw [← ho]
  clear ho
  obtain ⟨⟨p, l, b, ⟨⟩⟩, ⟨⟩⟩ := x
  show (sb qf u6 p l b).run = some (⟨cA, (((al2 p l b).1, ((al2 p l b).2, ())), ())⟩ : dh.Y)
  have hp : ks ((p, ()), ()) = true := hp
  unfold al2
  refine (aj (by rw [hp]; rfl)).trans ?_
  rcases (Bool.eq_false_or_eq_true (!(fL p == 0))).symm with h1 | h1
  · rw [h1]
    refine (OT.au rfl).trans ?_
    by_cases h2 : (p.2.2.1.length : Int) < (l.length : Int)
    · rw [decide_eq_true h2]
      exact (OT.ap rfl).trans rfl
    · rw [decide_eq_false h2]
      have h0 : (fL p == 0) = true := by
        cases hq : fL p == 0
        · rw [hq] at h1; cases h1
        · rfl
      have hG := abN h0
      refine (OT.au rfl).trans ((aj ?_).trans ?_)
      · simp only [List.all_cons, List.all_nil, Bool.and_true]
        exact decide_eq_true ⟨rfl, rfl, by show l.length ≤ p.2.2.1.length; omega, hG, rfl⟩
      · show (OT.br (ak p.1) (.br (decide ((akp p l b).length ≤ 100000)) (.br (mh p.1 (akp p l b)) (.ok ⟨cA, ((Ro p.1 (LG p.1 (akp p l b)), ((0 : Int), ())), ())⟩) (.ok ⟨cA, ((sg, ((41 : Int), ())), ())⟩)) (.ok ⟨cA, ((sg, ((50 : Int), ())), ())⟩)) (.ok ⟨cA, ((sg, ((40 : Int), ())), ())⟩) : OT dh.Y).run = _
        generalize akp p l b = t
        cases ak p.1 <;> cases decide (t.length ≤ 100000) <;> cases mh p.1 t <;> rfl
  · rw [h1]
    exact (OT.ap rfl).trans rfl
def mR : cv := (dh.aD zC Jl)
theorem FX : ac Tryz.prog 39 mR := UR
theorem FW : aF mR := az
def nP : Env := ay 39 mR o6
theorem nO : aQ Tryz.prog nP := ah FX lQ
theorem pD : av nP := ae FW s9
theorem Hx : aV Tryz.prog te nP := aJ follows ar nO pD
def fe : ao := ⟨[.val false .int, .val false .int, .val false (.list .u8)], [], false, 0, false⟩
abbrev uU : Type := ((Int) × (Int) × (List (UInt8)) × Unit) × (Unit)
def mN : aw := ⟨[.val true (.prod .int (.prod .int (.prod (.list (.prod .elem (.prod .elem .bool))) (.prod (.prod .elem (.prod .elem .bool)) (.prod .elem (.prod .elem .bool)))))), .val false .int], [], false⟩
def DE : SV → Option aw := fun _ => some mN
def FM (a0 : Int) (a1 : Int) (a2 : List (UInt8)) : OT fe.Y :=
  let z0 : ab := { w0 := 0, w1 := 0, w2 := 0, w3 := 0 }
  let z1 : ab × ab × Bool := (z0, z0, false)
  let z2 : Int × Int × List (ab × ab × Bool) × (ab × ab × Bool) × ab × ab × Bool := ((0 : Int), (0 : Int), [], z1, z1)
  (.br (ak a0)
  (.br (decide (a1 < (0 : Int)))
    (.ok ⟨mN, ((z2, ((60 : Int), ())), ())⟩)
    (.br (decide ((5 : Int) < a1))
      (.ok ⟨mN, ((z2, ((60 : Int), ())), ())⟩)
      (gd [decide ((0 : Int) ≤ a1), inR (LH (1 : Int) a1 + (2 : Int))] .fail)))
  (.ok ⟨mN, ((z2, ((40 : Int), ())), ())⟩))
theorem afd (x : uU) (Q : fe.Y → Prop) : wpf te nP (bg 0 (fun _ _ => False) ax) 1000 Tryz.f31 (fe.inp.inj x).tm (fe.inp.inj x).hp (fnK fe DE Q) (fun _ _ => False) = (FM (x.1.1) (x.1.2.1) (x.1.2.2.1)).wpR Q := by kernel_rfl
theorem MX (pre : uU → Bool) (F : uU → OT fe.Y) (hF : ∀ (x : uU) oy, pre x = true → (F x).run = some oy → (FM (x.1.1) (x.1.2.1) (x.1.2.2.1)).run = some oy) : ac Tryz.prog 31 (fe.aD pre F) :=
  aB ar nO Hx (f := 31) (fn := Tryz.f31) (c := al Tryz.f31) (by kernel_rfl) (by kernel_rfl) (by kernel_rfl) (S := fe) (k := 0) (by kernel_rfl) (fun R hR => (aC (c := (al Tryz.f31)) (by kernel_rfl) (id := 0) (by kernel_rfl) (fun _ _ _ _ _ _ _ _ h _ => h.elim) ag)) (n := 1000) (sel := DE) (fun v o h => by cases h; rfl) (pre := pre) (F := F) (T := fun x => FM (x.1.1) (x.1.2.1) (x.1.2.2.1)) (fun x Q => afd x Q) hF
def amr : akF := (0, 0, [], sg, sg)
def DF (x : uU) : Bool := ak x.1.1 && decide (5 < x.1.2.1)
def R5 (_ : uU) : OT fe.Y := .ok ⟨mN, ((amr, ((60 : Int), ())), ())⟩
theorem ZH : ac Tryz.prog 31 (fe.aD DF R5) := MX _ _ fun x oy hp ho => by
  rw [← ho]
  clear ho
  obtain ⟨⟨c, k, b, ⟨⟩⟩, ⟨⟩⟩ := x
  obtain ⟨hs, hk⟩ := (Bool.and_eq_true _ _).mp hp
  have hk : 5 < k := of_decide_eq_true hk
  exact (OT.ap hs).trans ((OT.au (decide_eq_false (show ¬ k < 0 by omega))).trans ((OT.ap (decide_eq_true hk)).trans rfl))
def qa : cv := (fe.aD DF R5)
theorem I5 : ac Tryz.prog 31 qa := ZH
theorem I4 : aF qa := az
def tr : Env := ay 31 qa nP
theorem qW : aQ Tryz.prog tr := ah I5 nO
theorem tq : av tr := ae I4 pD
theorem Li : aV Tryz.prog te tr := aJ follows ar qW tq
def fo : ao := ⟨[], [], true, 0, false⟩
abbrev va : Type := (Unit) × (Unit)
def sd : aw := ⟨[.val false .bool], [], false⟩
def DS : SV → Option aw := fun _ => some sd
def ye : OT fo.Y :=
  (.ok ⟨sd, ((true, ()), ())⟩)
theorem afo (x : va) (Q : fo.Y → Prop) : wpf te tr ax 1000 Tryz.f28 (fo.inp.inj x).tm (fo.inp.inj x).hp (fnK fo DS Q) (fun _ _ => False) = (ye).wpR Q := by kernel_rfl
theorem Na (pre : va → Bool) (F : va → OT fo.Y) (hF : ∀ (x : va) oy, pre x = true → (F x).run = some oy → (ye).run = some oy) : ac Tryz.prog 28 (fo.aD pre F) :=
  aB ar qW Li (f := 28) (fn := Tryz.f28) (c := al Tryz.f28) (by kernel_rfl) (by kernel_rfl) (by kernel_rfl) (S := fo) (k := 0) (by kernel_rfl) (fun R hR => ag) (n := 1000) (sel := DS) (fun v o h => by cases h; rfl) (pre := pre) (F := F) (T := fun x => ye) (fun x Q => afo x Q) hF
def DT (_ : va) : Bool := true
def Se (_ : va) : OT fo.Y := .ok ⟨sd, ((true, ()), ())⟩
theorem ZS : ac Tryz.prog 28 (fo.aD DT Se) := Na _ _ fun x oy hp ho => by
  rw [← ho]
  clear ho
  show ye.run = some ⟨sd, ((true, ()), ())⟩
  kernel_rfl
def qh : cv := (fo.aD DT Se)
theorem Jq : ac Tryz.prog 28 qh := ZS
theorem Jp : aF qh := az
def yv : Env := ay 28 qh tr
theorem BX : aQ Tryz.prog yv := ah Jq qW
theorem Hy : av yv := ae Jp tq
theorem Ll : aV Tryz.prog te yv := aJ follows ar BX Hy
def cU : ao := ⟨[.val true ajl], [], true, 0, false⟩
abbrev oM : Type := (((Int × (Int × (List ((ab × (ab × Bool))) × ((ab × (ab × Bool)) × (ab × (ab × Bool))))))) × Unit) × (Unit)
def fV : aw := ⟨[.val false .bool], [], false⟩
def An : SV → Option aw := fun _ => some fV
def sC (a0 : (Int × (Int × (List ((ab × (ab × Bool))) × ((ab × (ab × Bool)) × (ab × (ab × Bool))))))) : OT cU.Y :=
  let z0 : (Int × Int × List (ab × ab × Bool) × (ab × ab × Bool) × ab × ab × Bool) × PUnit := (a0, ())
  let z1 : Int := fL a0
  (.br (decide ((100 : Int) < (↑(List.length a0.snd.snd.fst) : Int)))
  (.ok ⟨fV, ((true, ()), ())⟩)
  (gd [u1 (z0, ()), ks (z0, ()), uk (z0, ())] (.br (z1 == z1)
    (gd [uV ((a0, a0, ()), ())] (.ok ⟨fV, ((Ua a0 a0, ()), ())⟩))
    (.ok ⟨fV, ((false, ()), ())⟩))))
theorem aar (x : oM) (Q : cU.Y → Prop) : wpf te yv ax 1000 Tryz.f6 (cU.inp.inj x).tm (cU.inp.inj x).hp (fnK cU An Q) (fun _ _ => False) = (sC (x.1.1)).wpR Q := by kernel_rfl
theorem JM (pre : oM → Bool) (F : oM → OT cU.Y) (hF : ∀ (x : oM) oy, pre x = true → (F x).run = some oy → (sC (x.1.1)).run = some oy) : ac Tryz.prog 6 (cU.aD pre F) :=
  aB ar BX Ll (f := 6) (fn := Tryz.f6) (c := al Tryz.f6) (by kernel_rfl) (by kernel_rfl) (by kernel_rfl) (S := cU) (k := 0) (by kernel_rfl) (fun R hR => ag) (n := 1000) (sel := An) (fun v o h => by cases h; rfl) (pre := pre) (F := F) (T := fun x => sC (x.1.1)) (fun x Q => aar x Q) hF
def qu (_ : oM) : Bool := true
def JN (_ : oM) : OT cU.Y := .ok ⟨fV, ((true, ()), ())⟩
theorem Vo : ac Tryz.prog 6 (cU.aD qu JN) := JM _ _ fun x oy hp ho => by
  rw [← ho]
  clear ho
  obtain ⟨⟨p, ⟨⟩⟩, ⟨⟩⟩ := x
  show (sC p).run = some (⟨fV, ((true, ()), ())⟩ : cU.Y)
  by_cases h : (100 : Int) < (p.2.2.1.length : Int)
  · exact (OT.ap (decide_eq_true h)).trans rfl
  · refine (OT.au (decide_eq_false h)).trans ((aj ?_).trans ((OT.ap (beq_self_eq_true (fL p))).trans ((aj ?_).trans ?_)))
    · simp only [List.all_cons, List.all_nil, Bool.and_true, Bool.and_eq_true]
      exact ⟨decide_eq_true (show p.2.2.1.length * 72 ≤ _ by omega), decide_eq_true (show p.2.2.1.length ≤ _ by omega), decide_eq_true (show p.2.2.1.length ≤ _ by omega)⟩
    · simp only [List.all_cons, List.all_nil, Bool.and_true]
      exact decide_eq_true (show p.2.2.1.length ≤ _ by omega)
    · exact congrArg (fun b : Bool => some (⟨fV, ((b, ()), ())⟩ : cU.Y)) (T9 p)
def JL : cv := (cU.aD qu JN)
theorem Gp : ac Tryz.prog 6 JL := Vo
end Go.Proofs.YtohjofabochgfaaGreat
