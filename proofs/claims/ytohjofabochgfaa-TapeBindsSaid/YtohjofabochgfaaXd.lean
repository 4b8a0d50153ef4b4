/- A symbolic machine for Go code over plain data, and functions of the program as it shows them. No statement is proved in this file. -/
import Derived.KernelRfl
import Derived.Test.YtohjofabochgfaaXc
set_option linter.unusedSimpArgs false
set_option linter.unusedVariables false
set_option linter.unusedSectionVars false

namespace Go.Proofs.Ytohjofabochgfaa
open Sx Go
set_option maxRecDepth 100000
def Er : ak := ⟨[.val false .u64, .val false .u64, .val false .u64], [], true, 0, false⟩
abbrev WT : Type := ((UInt64) × (UInt64) × (UInt64) × Unit) × (Unit)
def WS : aq := ⟨[.val false .u64, .val false .u64], [], false⟩
def tf (x : WT) : Bool := decide (x.1.2.2.1.toNat ≤ 1)
def O5 (x : WT) : OT Er.Y := .ok ⟨WS, ((nv x.1.1 x.1.2.1 x.1.2.2.1, o1 x.1.1 x.1.2.1 x.1.2.2.1, ()), ())⟩
theorem Ro (a b c : UInt64) (hc : c.toNat ≤ 1) (w : World) : (callFunc 96 #[eo a, eo b, eo c]).run Try.prog w = .ok (.value (.tuple #[eo (nv a b c), eo (o1 a b c)])) w := by
  unfold eo
  rw [run_callFunc_extern Try.func96 (by kernel_rfl) (by kernel_rfl) (by kernel_rfl) (e := add64Entry) (by kernel_rfl), run_add64 (a.toNat : Int) (b.toNat : Int) (c.toNat : Int) (by omega) (by omega) (by omega) (by omega)]
  have ha := a.toNat_lt
  have hb := b.toNat_lt
  have e1 : (((nv a b c).toNat : Nat) : Int) = ((a.toNat : Int) + b.toNat + c.toNat) % 18446744073709551616 := by
    unfold nv
    rw [UInt64.toNat_ofNat', Nat.mod_eq_of_lt (by omega)]
    omega
  have e2 : (((o1 a b c).toNat : Nat) : Int) = ((a.toNat : Int) + b.toNat + c.toNat) / 18446744073709551616 := by
    unfold o1
    rw [UInt64.toNat_ofNat', Nat.mod_eq_of_lt (by omega)]
    omega
  rw [e1, e2]
  rfl
theorem WR : ab Try.prog 96 (Er.aE tf O5) := by
  refine aaR (k := 0) (by kernel_rfl) fun x oy vs N w hp ho hr => ?_
  obtain ⟨⟨a, b, c, ⟨⟩⟩, ⟨⟩⟩ := x
  cases ho
  have hc : c.toNat ≤ 1 := of_decide_eq_true hp
  have hr' : SV.bg N [.u64 a, .u64 b, .u64 c] vs := hr
  simp only [SV.bg, SV.rel] at hr'
  obtain ⟨_, _, rfl, rfl, _, _, rfl, rfl, _, _, rfl, rfl, rfl⟩ := hr'
  refine ⟨.tup [.u64 (nv a b c), .u64 (o1 a b c)], _, Ro a b c hc w, ?_, ⟨rfl, by kernel_rfl⟩⟩
  simp only [SV.rel]
  exact ⟨_, rfl, by simp only [SV.bg, SV.rel]; exact ⟨_, _, rfl, rfl, _, _, rfl, rfl, rfl⟩⟩
def oE : bO := (Er.aE tf O5)
theorem H8 : ab Try.prog 96 oE := WR
theorem H7 : aD oE := aA
def EM : Env := av 96 oE W7
theorem LW : aN Try.prog EM := ah H8 W6
theorem EL : ar EM := ac H7 LU
def Eb : ak := ⟨[.val false .u64, .val false .u64, .val false .u64], [], true, 0, false⟩
abbrev Wq : Type := ((UInt64) × (UInt64) × (UInt64) × Unit) × (Unit)
def Wp : aq := ⟨[.val false .u64, .val false .u64], [], false⟩
def sZ (x : Wq) : Bool := decide (x.1.2.2.1.toNat ≤ 1)
def OM (x : Wq) : OT Eb.Y := .ok ⟨Wp, ((jR x.1.1 x.1.2.1 x.1.2.2.1, EN x.1.1 x.1.2.1 x.1.2.2.1, ()), ())⟩
def aaC : Array Value → Sem Value := fun args => do
  let (x, y, b) ← Extern.MathBitsCarry.three "Sub64" args
  pure (Extern.MathBitsCarry.pair ((x + Extern.MathBitsCarry.m64 - y - b) % Extern.MathBitsCarry.m64) (if x < y + b then 1 else 0))
theorem PA {P : Program} (x y b : Nat) (hb : b ≤ 1) (w : World) :
    (aaC #[.int .u64 x, .int .u64 y, .int .u64 b]).run P w =
      .ok (.tuple #[.int .u64 (((x + 18446744073709551616 - y - b) % 18446744073709551616 : Nat) : Int), .int .u64 ((if x < y + b then 1 else 0 : Nat) : Int)]) w := by
  have : b = 0 ∨ b = 1 := by omega
  rcases this with rfl | rfl <;> rfl
theorem Rc (a b c : UInt64) (hc : c.toNat ≤ 1) (w : World) : (callFunc 92 #[eo a, eo b, eo c]).run Try.prog w = .ok (.value (.tuple #[eo (jR a b c), eo (EN a b c)])) w := by
  unfold eo
  rw [run_callFunc_extern Try.func92 (by kernel_rfl) (by kernel_rfl) (by kernel_rfl) (e := aaC) (by kernel_rfl), PA a.toNat b.toNat c.toNat (by omega)]
  have ha := a.toNat_lt
  have hb := b.toNat_lt
  have e1 : (jR a b c).toNat = (a.toNat + 18446744073709551616 - b.toNat - c.toNat) % 18446744073709551616 := by
    unfold jR
    rw [UInt64.toNat_ofNat', Nat.mod_eq_of_lt (by omega)]
  have e2 : (EN a b c).toNat = if a.toNat < b.toNat + c.toNat then 1 else 0 := by
    unfold EN
    rw [UInt64.toNat_ofNat', Nat.mod_eq_of_lt (by split <;> omega)]
  rw [e1, e2]
  rfl
theorem Wo : ab Try.prog 92 (Eb.aE sZ OM) := by
  refine aaR (k := 0) (by kernel_rfl) fun x oy vs N w hp ho hr => ?_
  obtain ⟨⟨a, b, c, ⟨⟩⟩, ⟨⟩⟩ := x
  cases ho
  have hc : c.toNat ≤ 1 := of_decide_eq_true hp
  have hr' : SV.bg N [.u64 a, .u64 b, .u64 c] vs := hr
  simp only [SV.bg, SV.rel] at hr'
  obtain ⟨_, _, rfl, rfl, _, _, rfl, rfl, _, _, rfl, rfl, rfl⟩ := hr'
  refine ⟨.tup [.u64 (jR a b c), .u64 (EN a b c)], _, Rc a b c hc w, ?_, ⟨rfl, by kernel_rfl⟩⟩
  simp only [SV.rel]
  exact ⟨_, rfl, by simp only [SV.bg, SV.rel]; exact ⟨_, _, rfl, rfl, _, _, rfl, rfl, rfl⟩⟩
def ot : bO := (Eb.aE sZ OM)
theorem HC : ab Try.prog 92 ot := Wo
theorem HB : aD ot := aA
def rk : Env := av 92 ot EM
theorem oS : aN Try.prog rk := ah HC LW
theorem rj : ar rk := ac HB EL
theorem ID : aY Try.prog te rk := aG follows ao oS rj
def e5 : ak := ⟨[.val false .u64, .val false .u64], [], true, 0, false⟩
abbrev s8 : Type := ((UInt64) × (UInt64) × Unit) × (Unit)
def yz : aq := ⟨[.val false .u64, .val false .u64], [], false⟩
def BX : SV → Option aq := fun _ => some yz
def vy (a0 : UInt64) (a1 : UInt64) : OT e5.Y :=
  let z0 : UInt64 := aP a0 (32 : Int)
  let z1 : UInt64 := aP a1 (32 : Int)
  let z2 : UInt64 := z0 * (a1 &&& (4294967295 : UInt64)) + aP ((a0 &&& (4294967295 : UInt64)) * (a1 &&& (4294967295 : UInt64))) (32 : Int)
  (.ok ⟨yz, ((z0 * z1 + aP z2 (32 : Int) + aP ((z2 &&& (4294967295 : UInt64)) + (a0 &&& (4294967295 : UInt64)) * z1) (32 : Int), (a0 * a1, ())), ())⟩)
theorem ZX (x : s8) (Q : e5.Y → Prop) : wpf te rk az 1000 Try.f99 (e5.inp.inj x).tm (e5.inp.inj x).hp (fnK e5 BX Q) (fun _ _ => False) = (vy (x.1.1) (x.1.2.1)).wpR Q := by kernel_rfl
theorem Ld (pre : s8 → Bool) (F : s8 → OT e5.Y) (hF : ∀ (x : s8) oy, pre x = true → (F x).run = some oy → (vy (x.1.1) (x.1.2.1)).run = some oy) : ab Try.prog 99 (e5.aE pre F) :=
  aC ao oS ID (f := 99) (fn := Try.f99) (c := al Try.f99) (by kernel_rfl) (by kernel_rfl) (by kernel_rfl) (S := e5) (k := 0) (by kernel_rfl) (fun R hR => ae) (n := 1000) (sel := BX) (fun v o h => by cases h; rfl) (pre := pre) (F := F) (T := fun x => vy (x.1.1) (x.1.2.1)) (fun x Q => ZX x Q) hF
def BZ (_ : s8) : Bool := true
def Ef (x : s8) : OT e5.Y := .ok ⟨yz, ((Xa x.1.1 x.1.2.1, (x.1.1 * x.1.2.1, ())), ())⟩
theorem Ww : ab Try.prog 99 (e5.aE BZ Ef) := Ld _ _ fun x oy _ ho => by
  rw [← ho]
  simp only [Ef, vy, aeW]
def oz : bO := (e5.aE BZ Ef)
theorem HL : ab Try.prog 99 oz := Ww
theorem HK : aD oz := aA
def ru : Env := av 99 oz rk
theorem oV : aN Try.prog ru := ah HL oS
theorem rr : ar ru := ac HK rj
theorem IH : aY Try.prog te ru := aG follows ao oV rr
def e6 : ak := ⟨[.val false .u64], [], true, 0, false⟩
abbrev tb : Type := ((UInt64) × Unit) × (Unit)
def dh : aq := ⟨[.val false .int], [], false⟩
def B1 : SV → Option aq := fun _ => some dh
def qn (a0 : UInt64) : OT e6.Y :=
  let z0 : UInt64 := aP a0 (32 : Int)
  let z1 : UInt64 := aP z0 (16 : Int)
  let z2 : Int := (↑(UInt8.toNat (UInt64.toUInt8 (aP z1 (8 : Int)))) : Int)
  let z3 : List UInt8 := List.replicate 64 (8 : UInt8)
  let z4 : List UInt8 := List.append (List.append [(0 : UInt8), (1 : UInt8), (2 : UInt8), (2 : UInt8), (3 : UInt8), (3 : UInt8), (3 : UInt8), (3 : UInt8), (4 : UInt8), (4 : UInt8), (4 : UInt8), (4 : UInt8), (4 : UInt8), (4 : UInt8), (4 : UInt8), (4 : UInt8), (5 : UInt8), (5 : UInt8), (5 : UInt8), (5 : UInt8), (5 : UInt8), (5 : UInt8), (5 : UInt8), (5 : UInt8), (5 : UInt8), (5 : UInt8), (5 : UInt8), (5 : UInt8), (5 : UInt8), (5 : UInt8), (5 : UInt8), (5 : UInt8), (6 : UInt8), (6 : UInt8), (6 : UInt8), (6 : UInt8), (6 : UInt8), (6 : UInt8), (6 : UInt8), (6 : UInt8), (6 : UInt8), (6 : UInt8), (6 : UInt8), (6 : UInt8), (6 : UInt8), (6 : UInt8), (6 : UInt8), (6 : UInt8), (6 : UInt8), (6 : UInt8), (6 : UInt8), (6 : UInt8), (6 : UInt8), (6 : UInt8), (6 : UInt8), (6 : UInt8), (6 : UInt8), (6 : UInt8), (6 : UInt8), (6 : UInt8), (6 : UInt8), (6 : UInt8), (6 : UInt8), (6 : UInt8)] (List.replicate 64 (7 : UInt8))) (List.append z3 z3)
  let z5 : Int := (56 : Int) + (↑(UInt8.toNat (List.getD z4 (Int.toNat z2) (0 : UInt8))) : Int)
  let z6 : Int := (↑(UInt8.toNat (UInt64.toUInt8 z1)) : Int)
  let z7 : Int := (48 : Int) + (↑(UInt8.toNat (List.getD z4 (Int.toNat z6) (0 : UInt8))) : Int)
  let z8 : Int := (↑(UInt8.toNat (UInt64.toUInt8 (aP z0 (8 : Int)))) : Int)
  let z9 : Int := (40 : Int) + (↑(UInt8.toNat (List.getD z4 (Int.toNat z8) (0 : UInt8))) : Int)
  let z10 : Int := (↑(UInt8.toNat (UInt64.toUInt8 z0)) : Int)
  let z11 : Int := (32 : Int) + (↑(UInt8.toNat (List.getD z4 (Int.toNat z10) (0 : UInt8))) : Int)
  let z12 : UInt64 := aP a0 (16 : Int)
  let z13 : Int := (↑(UInt8.toNat (UInt64.toUInt8 (aP z12 (8 : Int)))) : Int)
  let z14 : Int := (24 : Int) + (↑(UInt8.toNat (List.getD z4 (Int.toNat z13) (0 : UInt8))) : Int)
  let z15 : Int := (↑(UInt8.toNat (UInt64.toUInt8 z12)) : Int)
  let z16 : Int := (16 : Int) + (↑(UInt8.toNat (List.getD z4 (Int.toNat z15) (0 : UInt8))) : Int)
  let z17 : Int := (↑(UInt8.toNat (UInt64.toUInt8 (aP a0 (8 : Int)))) : Int)
  let z18 : Int := (8 : Int) + (↑(UInt8.toNat (List.getD z4 (Int.toNat z17) (0 : UInt8))) : Int)
  let z19 : Int := (↑(UInt8.toNat (UInt64.toUInt8 a0)) : Int)
  let z20 : Int := (0 : Int) + (↑(UInt8.toNat (List.getD z4 (Int.toNat z19) (0 : UInt8))) : Int)
  (.br (decide ((4294967296 : UInt64) ≤ a0))
  (.br (decide ((65536 : UInt64) ≤ z0))
    (.br (decide ((256 : UInt64) ≤ z1))
      (gd [inB z2 256, inR z5] (.ok ⟨dh, ((z5, ()), ())⟩))
      (gd [inB z6 256, inR z7] (.ok ⟨dh, ((z7, ()), ())⟩)))
    (.br (decide ((256 : UInt64) ≤ z0))
      (gd [inB z8 256, inR z9] (.ok ⟨dh, ((z9, ()), ())⟩))
      (gd [inB z10 256, inR z11] (.ok ⟨dh, ((z11, ()), ())⟩))))
  (.br (decide ((65536 : UInt64) ≤ a0))
    (.br (decide ((256 : UInt64) ≤ z12))
      (gd [inB z13 256, inR z14] (.ok ⟨dh, ((z14, ()), ())⟩))
      (gd [inB z15 256, inR z16] (.ok ⟨dh, ((z16, ()), ())⟩)))
    (.br (decide ((256 : UInt64) ≤ a0))
      (gd [inB z17 256, inR z18] (.ok ⟨dh, ((z18, ()), ())⟩))
      (gd [inB z19 256, inR z20] (.ok ⟨dh, ((z20, ()), ())⟩)))))
theorem ZZ (x : tb) (Q : e6.Y → Prop) : wpf te ru az 1000 Try.f97 (e6.inp.inj x).tm (e6.inp.inj x).hp (fnK e6 B1 Q) (fun _ _ => False) = (qn (x.1.1)).wpR Q := by kernel_rfl
theorem Li (pre : tb → Bool) (F : tb → OT e6.Y) (hF : ∀ (x : tb) oy, pre x = true → (F x).run = some oy → (qn (x.1.1)).run = some oy) : ab Try.prog 97 (e6.aE pre F) :=
  aC ao oV IH (f := 97) (fn := Try.f97) (c := al Try.f97) (by kernel_rfl) (by kernel_rfl) (by kernel_rfl) (S := e6) (k := 0) (by kernel_rfl) (fun R hR => ae) (n := 1000) (sel := B1) (fun v o h => by cases h; rfl) (pre := pre) (F := F) (T := fun x => qn (x.1.1)) (fun x Q => ZZ x Q) hF
def dz (x : UInt64) : Bool := (x == 16513537) || (x == 16521217)
theorem cD {x : UInt64} (h : dz x = true) : x = 16513537 ∨ x = 16521217 := by
  simpa [dz] using h
def ta (x : tb) : Bool := dz x.1.1
def OW (_ : tb) : OT e6.Y := .ok ⟨dh, (((24 : Int), ()), ())⟩
theorem HQ : (qn 16513537).run = some ⟨dh, (((24 : Int), ()), ())⟩ ∧ (qn 16521217).run = some ⟨dh, (((24 : Int), ()), ())⟩ := ⟨by kernel_rfl, by kernel_rfl⟩
theorem WA : ab Try.prog 97 (e6.aE ta OW) := Li _ _ fun x oy hp ho => by
  rw [← ho]
  clear ho
  obtain ⟨⟨x, ⟨⟩⟩, ⟨⟩⟩ := x
  rcases cD hp with h | h
  · have h : x = 16513537 := h
    subst h
    exact HQ.1
  · have h : x = 16521217 := h
    subst h
    exact HQ.2
def oA : bO := (e6.aE ta OW)
theorem HP : ab Try.prog 97 oA := WA
theorem HO : aD oA := aA
def ry : Env := av 97 oA ru
theorem oY : aN Try.prog ry := ah HP oV
theorem rv : ar ry := ac HO rr
theorem IJ : aY Try.prog te ry := aG follows ao oY rv
def hI : ak := ⟨[.val false .u64], [], true, 0, false⟩
abbrev B0 : Type := ((UInt64) × Unit) × (Unit)
def Eg : aq := ⟨[.val false .int], [], false⟩
def HM : SV → Option aq := fun _ => some Eg
def Lh (a0 : UInt64) : OT hI.Y :=
  (gd [ta ((a0, ()), ())] (.ok ⟨Eg, (((40 : Int), ()), ())⟩))
theorem ad4 (x : B0) (Q : hI.Y → Prop) : wpf te ry az 1000 Try.f91 (hI.inp.inj x).tm (hI.inp.inj x).hp (fnK hI HM Q) (fun _ _ => False) = (Lh (x.1.1)).wpR Q := by kernel_rfl
theorem Rm (pre : B0 → Bool) (F : B0 → OT hI.Y) (hF : ∀ (x : B0) oy, pre x = true → (F x).run = some oy → (Lh (x.1.1)).run = some oy) : ab Try.prog 91 (hI.aE pre F) :=
  aC ao oY IJ (f := 91) (fn := Try.f91) (c := al Try.f91) (by kernel_rfl) (by kernel_rfl) (by kernel_rfl) (S := hI) (k := 0) (by kernel_rfl) (fun R hR => ae) (n := 1000) (sel := HM) (fun v o h => by cases h; rfl) (pre := pre) (F := F) (T := fun x => Lh (x.1.1)) (fun x Q => ad4 x Q) hF
def yC (x : B0) : Bool := dz x.1.1
def Wz (_ : B0) : OT hI.Y := .ok ⟨Eg, (((40 : Int), ()), ())⟩
theorem ZY : ab Try.prog 91 (hI.aE yC Wz) := Rm _ _ fun x oy hp ho => by
  rw [← ho]
  clear ho
  obtain ⟨⟨x, ⟨⟩⟩, ⟨⟩⟩ := x
  have hp : dz x = true := hp
  refine (aj ?_).trans rfl
  simp only [List.all_cons, List.all_nil, Bool.and_true, Bool.and_eq_true]
  first | exact hp | exact ⟨hp, rfl⟩
def s9 : bO := (hI.aE yC Wz)
theorem Lg : ab Try.prog 91 s9 := ZY
theorem Lf : aD s9 := aA
def oX : Env := av 91 s9 ry
theorem jI : aN Try.prog oX := ah Lg oY
theorem uX : ar oX := ac Lf rv
theorem oW : aY Try.prog te oX := aG follows ao jI uX
def dV : ak := ⟨[.val false .u64, .val false .u64, .val false .u64], [], true, 0, false⟩
abbrev tc : Type := ((UInt64) × (UInt64) × (UInt64) × Unit) × (Unit)
def lJ : Shape := ⟨135, [(2, .val false .u64), (8, .val false .u64), (9, .val false .u64), (10, .val false .u64), (11, .val false .u64), (13, .val false .u64), (14, .val false .u64), (15, .val false .u64), (16, .val false .u64)], [], 0, true⟩
abbrev bH : Type := ((UInt64) × (UInt64) × (UInt64) × (UInt64) × (UInt64) × (UInt64) × (UInt64) × (UInt64) × (UInt64) × Unit) × (Unit)
def hX : Shape := ⟨135, [(2, .val false .u64), (8, .val false .u64), (9, .val false .u64), (10, .val false .u64), (11, .val false .u64), (13, .val false .u64), (14, .val false .u64), (15, .val false .u64)], [], 0, true⟩
abbrev fG : Type := ((UInt64) × (UInt64) × (UInt64) × (UInt64) × (UInt64) × (UInt64) × (UInt64) × (UInt64) × Unit) × (Unit)
def HV : SE → Option Shape := nt [(0, hX)] none
def WI (a2 : UInt64) (a8 : UInt64) (a9 : UInt64) (a10 : UInt64) (a11 : UInt64) (a13 : UInt64) (a14 : UInt64) (a15 : UInt64) (a16 : UInt64) : OT (Sum bH aS) :=
  let z0 : Bool := decide ((4294967296 : UInt64) ≤ a16 + a9)
  (.br (decide ((4294967296 : UInt64) ≤ a15))
  (.br (z0)
    (.ok (.inr ⟨(.exit 0, hX), ((a2, (a8, (a9, (a10, (a11, (a13, (a14, (a15 - (1 : UInt64), ())))))))), ())⟩))
    (.ok (.inl ((a2, (a8, (a9, (a10, (a11, (a13, (a14, (a15 - (1 : UInt64), (a16 + a9, ()))))))))), ()))))
  (.br (decide ((4294967296 : UInt64) * a16 + a13 < a15 * a10))
    (.br (z0)
      (.ok (.inr ⟨(.exit 0, hX), ((a2, (a8, (a9, (a10, (a11, (a13, (a14, (a15 - (1 : UInt64), ())))))))), ())⟩))
      (.ok (.inl ((a2, (a8, (a9, (a10, (a11, (a13, (a14, (a15 - (1 : UInt64), (a16 + a9, ()))))))))), ()))))
    (.ok (.inr ⟨(.exit 0, hX), ((a2, (a8, (a9, (a10, (a11, (a13, (a14, (a15, ())))))))), ())⟩))))
def qt (s : bH) : OT (Sum bH aS) := WI (s.1.1) (s.1.2.1) (s.1.2.2.1) (s.1.2.2.2.1) (s.1.2.2.2.2.1) (s.1.2.2.2.2.2.1) (s.1.2.2.2.2.2.2.1) (s.1.2.2.2.2.2.2.2.1) (s.1.2.2.2.2.2.2.2.2.1)
theorem WC (s : bH) (Q : Sum bH aS → Prop) : wps te oX az 1000 (bM (al Try.f76) 0) (lJ.inj s) (dm lJ HV (Q : Sum lJ.T aS → Prop)) = (qt s).wpR Q := by kernel_rfl
def qq (g0_0 : bH → fG) (s : bH) : OT aS := (.ok ⟨(.exit 0, hX), g0_0 s⟩)
def lI : Shape := ⟨135, [(2, .val false .u64), (8, .val false .u64), (9, .val false .u64), (10, .val false .u64), (14, .val false .u64), (15, .val false .u64), (16, .val false .u64), (17, .val false .u64), (18, .val false .u64)], [], 0, true⟩
abbrev bG : Type := ((UInt64) × (UInt64) × (UInt64) × (UInt64) × (UInt64) × (UInt64) × (UInt64) × (UInt64) × (UInt64) × Unit) × (Unit)
def hJ : Shape := ⟨135, [(2, .val false .u64), (8, .val false .u64), (14, .val false .u64), (15, .val false .u64), (17, .val false .u64), (18, .val false .u64)], [], 0, true⟩
abbrev fF : Type := ((UInt64) × (UInt64) × (UInt64) × (UInt64) × (UInt64) × (UInt64) × Unit) × (Unit)
def HU : SE → Option Shape := nt [(2, hJ)] none
def WH (a2 : UInt64) (a8 : UInt64) (a9 : UInt64) (a10 : UInt64) (a14 : UInt64) (a15 : UInt64) (a16 : UInt64) (a17 : UInt64) (a18 : UInt64) : OT (Sum bG aS) :=
  let z0 : Bool := decide ((4294967296 : UInt64) ≤ a16 + a9)
  (.br (decide ((4294967296 : UInt64) ≤ a18))
  (.br (z0)
    (.ok (.inr ⟨(.exit 2, hJ), ((a2, (a8, (a14, (a15, (a17, (a18 - (1 : UInt64), ())))))), ())⟩))
    (.ok (.inl ((a2, (a8, (a9, (a10, (a14, (a15, (a16 + a9, (a17, (a18 - (1 : UInt64), ()))))))))), ()))))
  (.br (decide ((4294967296 : UInt64) * a16 + a14 < a18 * a10))
    (.br (z0)
      (.ok (.inr ⟨(.exit 2, hJ), ((a2, (a8, (a14, (a15, (a17, (a18 - (1 : UInt64), ())))))), ())⟩))
      (.ok (.inl ((a2, (a8, (a9, (a10, (a14, (a15, (a16 + a9, (a17, (a18 - (1 : UInt64), ()))))))))), ()))))
    (.ok (.inr ⟨(.exit 2, hJ), ((a2, (a8, (a14, (a15, (a17, (a18, ())))))), ())⟩))))
def qs (s : bG) : OT (Sum bG aS) := WH (s.1.1) (s.1.2.1) (s.1.2.2.1) (s.1.2.2.2.1) (s.1.2.2.2.2.1) (s.1.2.2.2.2.2.1) (s.1.2.2.2.2.2.2.1) (s.1.2.2.2.2.2.2.2.1) (s.1.2.2.2.2.2.2.2.2.1)
theorem WB (s : bG) (Q : Sum bG aS → Prop) : wps te oX az 1000 (bM (al Try.f76) 2) (lI.inj s) (dm lI HU (Q : Sum lI.T aS → Prop)) = (qs s).wpR Q := by kernel_rfl
def qp (g2_2 : bG → fF) (s : bG) : OT aS := (.ok ⟨(.exit 2, hJ), g2_2 s⟩)
def jB : aq := ⟨[.val false .u64, .val false .u64], [], false⟩
def B2 : SV → Option aq := fun _ => some jB
def vB (ok0 : bH → Bool) (g0_0 : bH → fG) (ok2 : bG → Bool) (g2_2 : bG → fF) (a0 : UInt64) (a1 : UInt64) (a2 : UInt64) : OT dV.Y :=
  let z0 : Bool := !a2 == (0 : UInt64)
  let z1 : UInt64 := bC a2 (40 : Int)
  let z2 : UInt64 := aP z1 (32 : Int)
  let z3 : UInt64 := bC a0 (40 : Int) ||| aP a1 (24 : Int)
  let z4 : UInt64 := bC a1 (40 : Int)
  let z5 : UInt64 := z3 / z2
  let z6 : (UInt64 × UInt64 × UInt64 × UInt64 × UInt64 × UInt64 × UInt64 × UInt64 × UInt64 × PUnit) × PUnit := ((z1, (40 : UInt64), z2, z1 &&& (4294967295 : UInt64), z3, aP z4 (32 : Int), z4 &&& (4294967295 : UInt64), z5, z3 - z5 * z2, ()), ())
  let z7 := (g0_0 z6).fst
  let z8 := z7.snd
  let z9 := z8.snd
  let z10 := z9.fst
  let z11 := z7.fst
  let z12 := z9.snd
  let z13 := z12.snd
  let z14 := z13.snd
  let z15 := z14.snd
  let z16 := z15.snd.fst
  let z17 : UInt64 := z13.fst * (4294967296 : UInt64) + z14.fst - z16 * z11
  let z18 : UInt64 := z17 / z10
  let z19 : (UInt64 × UInt64 × UInt64 × UInt64 × UInt64 × UInt64 × UInt64 × UInt64 × UInt64 × PUnit) × PUnit := ((z11, z8.fst, z10, z12.fst, z15.fst, z16, z17 - z18 * z10, z17, z18, ()), ())
  let z20 := (g2_2 z19).fst
  let z21 := z20.snd
  let z22 := z21.snd
  let z23 := z22.snd
  let z24 := z23.snd
  let z25 := z24.snd.fst
  (.br (a2 == (0 : UInt64))
  .fail
  (.br (decide (a2 ≤ a0))
    .fail
    (.br (a0 == (0 : UInt64))
      (gd [z0, z0] (.ok ⟨jB, ((a1 / a2, (a1 % a2, ())), ())⟩))
      (gd [yC ((a2, ()), ()), !z2 == (0 : UInt64), ok0 z6, !z10 == (0 : UInt64), ok2 z19] (.ok ⟨jB, ((z23.fst * (4294967296 : UInt64) + z25, (aP (z24.fst * (4294967296 : UInt64) + z22.fst - z25 * z20.fst) (↑(UInt64.toNat z21.fst) : Int), ())), ())⟩)))))
theorem Z1 (ok0 : bH → Bool) (g0_0 : bH → fG) (ok2 : bG → Bool) (g2_2 : bG → fF) (x : tc) (Q : dV.Y → Prop) : wpf te oX (bK 2 (dZ lI 2 ok2 (qp g2_2)) (bK 0 (dZ lJ 0 ok0 (qq g0_0)) az)) 1000 Try.f76 (dV.inp.inj x).tm (dV.inp.inj x).hp (fnK dV B2 Q) (fun _ _ => False) = (vB ok0 g0_0 ok2 g2_2 (x.1.1) (x.1.2.1) (x.1.2.2.1)).wpR Q := by kernel_rfl
theorem Ln (ok0 : bH → Bool) (g0_0 : bH → fG) (ok2 : bG → Bool) (g2_2 : bG → fF) (h0 : ∀ s : bH, ok0 s = true → ∃ m e, aB (qt) m s = some e ∧ (qq g0_0 s).run = some e) (h2 : ∀ s : bG, ok2 s = true → ∃ m e, aB (qs) m s = some e ∧ (qp g2_2 s).run = some e) (pre : tc → Bool) (F : tc → OT dV.Y) (hF : ∀ (x : tc) oy, pre x = true → (F x).run = some oy → (vB ok0 g0_0 ok2 g2_2 (x.1.1) (x.1.2.1) (x.1.2.2.1)).run = some oy) : ab Try.prog 76 (dV.aE pre F) :=
  aC ao jI oW (f := 76) (fn := Try.f76) (c := al Try.f76) (by kernel_rfl) (by kernel_rfl) (by kernel_rfl) (S := dV) (k := 0) (by kernel_rfl) (fun R hR => (aL (c := (al Try.f76)) (by kernel_rfl) (id := 2) (by kernel_rfl) (bJ ao jI oW (sh := lI) hR (xs := HU) (aI (by kernel_rfl) (by kernel_rfl) hR) bk ae (n := 1000) (T := qs) (fun s Q => WB s Q) (ok := ok2) (f := qp g2_2) h2) (aL (c := (al Try.f76)) (by kernel_rfl) (id := 0) (by kernel_rfl) (bJ ao jI oW (sh := lJ) hR (xs := HV) (aI (by kernel_rfl) (by kernel_rfl) hR) bk ae (n := 1000) (T := qt) (fun s Q => WC s Q) (ok := ok0) (f := qq g0_0) h0) ae))) (n := 1000) (sel := B2) (fun v o h => by cases h; rfl) (pre := pre) (F := F) (T := fun x => vB ok0 g0_0 ok2 g2_2 (x.1.1) (x.1.2.1) (x.1.2.2.1)) (fun x Q => Z1 ok0 g0_0 ok2 g2_2 x Q) hF
def B4 (s : bH) : Bool := decide (s.1.2.2.2.1 = 0 ∧ s.1.2.2.2.2.2.2.2.1 < 4294967296)
def H0 (s : bH) : fG := ((s.1.1, s.1.2.1, s.1.2.2.1, s.1.2.2.2.1, s.1.2.2.2.2.1, s.1.2.2.2.2.2.1, s.1.2.2.2.2.2.2.1, s.1.2.2.2.2.2.2.2.1, ()), ())
theorem wZ {a b : UInt64} (h : b < a) : decide (a ≤ b) = false := decide_eq_false (by rw [UInt64.le_iff_toNat_le, UInt64.lt_iff_toNat_lt] at *; omega)
theorem not_lt_zero {a b : UInt64} : decide (a < b * 0) = false := decide_eq_false (by
  have : b * 0 = 0 := by rw [← UInt64.toNat_inj]; simp
  rw [this, UInt64.lt_iff_toNat_lt]
  exact Nat.not_lt_zero _)
theorem WG : ∀ s : bH, B4 s = true → ∃ m e, aB qt m s = some e ∧ (qq H0 s).run = some e := by
  rintro ⟨⟨a2, a8, a9, a10, a11, a13, a14, a15, a16, ⟨⟩⟩, ⟨⟩⟩ h
  have h' := of_decide_eq_true h
  dsimp only at h'
  obtain ⟨rfl, hl⟩ := h'
  exact ⟨1, _, ca ((OT.ay (wZ hl)).trans (OT.ay not_lt_zero)), rfl⟩
def B3 (s : bG) : Bool := decide (s.1.2.2.2.1 = 0 ∧ s.1.2.2.2.2.2.2.2.2.1 < 4294967296)
def HZ (s : bG) : fF := ((s.1.1, s.1.2.1, s.1.2.2.2.2.1, s.1.2.2.2.2.2.1, s.1.2.2.2.2.2.2.2.1, s.1.2.2.2.2.2.2.2.2.1, ()), ())
theorem WE : ∀ s : bG, B3 s = true → ∃ m e, aB qs m s = some e ∧ (qp HZ s).run = some e := by
  rintro ⟨⟨a2, a8, a9, a10, a14, a15, a16, a17, a18, ⟨⟩⟩, ⟨⟩⟩ h
  have h' := of_decide_eq_true h
  dsimp only at h'
  obtain ⟨rfl, hl⟩ := h'
  exact ⟨1, _, ca ((OT.ay (wZ hl)).trans (OT.ay not_lt_zero)), rfl⟩
def mS (x : tc) : Bool := dz x.1.2.2.1 && decide (x.1.1 < x.1.2.2.1)
def Em (x : tc) : OT dV.Y := .ok ⟨jB, ((aei x.1.1 x.1.2.1 x.1.2.2.1, Hh x.1.1 x.1.2.1 x.1.2.2.1, ()), ())⟩
theorem RQ {v z : Nat} (hv : v < 4294967296) (hz : z < 4294967296) : (v * 4294967296 % 2 ^ 64 + z) % 2 ^ 64 = (v * (256 * 16777216) + z) % 2 ^ 64 := by
  rw [Nat.mod_eq_of_lt (a := v * 4294967296) (by omega)]
theorem Xe {s : Nat} (hs : s < 4294967296) : s * 4294967296 / 2 ^ 40 = s / 256 % 2 ^ 64 := by
  rw [Nat.mod_eq_of_lt (by omega), show (2 : Nat) ^ 40 = 256 * 4294967296 from rfl, Nat.mul_div_mul_right _ _ (by omega)]
theorem HW {h l y : UInt64} {m : Nat} (hm : y.toNat = m) (hy : (bC y 40).toNat = m * 1099511627776) (hy1 : (aP (bC y 40) 32).toNat = m * 256) (hy0 : bC y 40 &&& 4294967295 = 0) (hm0 : 0 < m) (hm1 : m < 16777216) (hh : h.toNat < m) :
    let u := bC h 40 ||| aP l 24
    let q1 := u / aP (bC y 40) 32
    let un21 := u * 4294967296 + aP (bC l 40) 32 - q1 * bC y 40
    let q0 := un21 / aP (bC y 40) 32
    q1 < 4294967296 ∧ q0 < 4294967296 ∧ q1 * 4294967296 + q0 = aei h l y ∧ aP (un21 * 4294967296 + (bC l 40 &&& 4294967295) - q0 * bC y 40) 40 = Hh h l y := by
  intro u q1 un21 q0
  have hl := l.toNat_lt
  have hu : u.toNat = h.toNat * 1099511627776 + l.toNat / 16777216 := by
    have e1 : (bC h 40).toNat = h.toNat * 1099511627776 := by
      rw [show ((40 : Int)) = ((40 : Nat) : Int) from rfl, gE _ _ (by omega)]
      exact Nat.mod_eq_of_lt (by omega)
    have e2 : (aP l 24).toNat = l.toNat / 16777216 := dp l 24 (by omega)
    simp only [u]
    rw [UInt64.toNat_or, e1, e2, Nat.mul_comm]
    have := Nat.two_pow_add_eq_or_of_lt (i := 40) (b := l.toNat / 16777216) (by omega) h.toNat
    exact this.symm
  have hun1 : (aP (bC l 40) 32).toNat = l.toNat % 16777216 * 256 := by
    rw [show ((32 : Int)) = ((32 : Nat) : Int) from rfl, dp _ _ (by omega), show ((40 : Int)) = ((40 : Nat) : Int) from rfl, gE _ _ (by omega)]
    omega
  have hun0 : bC l 40 &&& 4294967295 = 0 := by
    rw [← UInt64.toNat_inj, fu, show ((40 : Int)) = ((40 : Nat) : Int) from rfl, gE _ _ (by omega)]
    show l.toNat * 2 ^ 40 % 2 ^ 64 % 4294967296 = 0
    omega
  have hq1 : q1.toNat = u.toNat / (m * 256) := by simp only [q1]; rw [UInt64.toNat_div, hy1]
  have hN : h.toNat * 18446744073709551616 + l.toNat = u.toNat * 16777216 + l.toNat % 16777216 := by rw [hu]; omega
  have hqr : u.toNat = q1.toNat * (m * 256) + u.toNat % (m * 256) := by
    rw [hq1, Nat.mul_comm]
    exact (Nat.div_add_mod _ _).symm
  have hr : u.toNat % (m * 256) < m * 256 := Nat.mod_lt _ (by omega)
  have hul : u.toNat < m * 256 * 4294967296 := by rw [hu]; omega
  have hq1l : q1.toNat < 4294967296 := by rw [hq1]; exact Nat.div_lt_of_lt_mul hul
  generalize hrr : u.toNat % (m * 256) = r at *
  have hprod : q1.toNat * (m * 1099511627776) = q1.toNat * (m * 256) * 4294967296 := by
    rw [Nat.mul_assoc, Nat.mul_assoc]
  have h21 : un21.toNat = r * 4294967296 + l.toNat % 16777216 * 256 := by
    simp only [un21]
    rw [UInt64.toNat_sub, UInt64.toNat_add, UInt64.toNat_mul, UInt64.toNat_mul, hun1, hy, hprod, show (4294967296 : UInt64).toNat = 4294967296 from rfl]
    generalize q1.toNat * (m * 256) = A at *
    omega
  have hq0 : q0.toNat = un21.toNat / (m * 256) := by simp only [q0]; rw [UInt64.toNat_div, hy1]
  have h21l : un21.toNat < m * 256 * 4294967296 := by rw [h21]; omega
  have hq0l : q0.toNat < 4294967296 := by rw [hq0]; exact Nat.div_lt_of_lt_mul h21l
  have hqr0 : un21.toNat = q0.toNat * (m * 256) + un21.toNat % (m * 256) := by
    rw [hq0, Nat.mul_comm]
    exact (Nat.div_add_mod _ _).symm
  have hr0 : un21.toNat % (m * 256) < m * 256 := Nat.mod_lt _ (by omega)
  obtain ⟨d1, d2⟩ := DT (K := 16777216) (L := 256) hm0 (by omega) hN hqr
  have e21 : (r * 16777216 + l.toNat % 16777216) * 256 = un21.toNat := by rw [h21]; omega
  rw [e21] at d1 d2
  refine ⟨by rw [UInt64.lt_iff_toNat_lt]; exact hq1l, by rw [UInt64.lt_iff_toNat_lt]; exact hq0l, ?_, ?_⟩
  · rw [← UInt64.toNat_inj, UInt64.toNat_add, UInt64.toNat_mul, show (4294967296 : UInt64).toNat = 4294967296 from rfl, hq0]
    unfold aei
    rw [hm, UInt64.toNat_ofNat', d1, ← hq0]
    exact RQ hq1l hq0l
  · have hprod0 : q0.toNat * (m * 1099511627776) = q0.toNat * (m * 256) * 4294967296 := by
      rw [Nat.mul_assoc, Nat.mul_assoc]
    have e3 : (un21 * 4294967296 + (bC l 40 &&& 4294967295) - q0 * bC y 40).toNat = (un21.toNat % (m * 256)) * 4294967296 := by
      rw [hun0, UInt64.toNat_sub, UInt64.toNat_add, UInt64.toNat_mul, UInt64.toNat_mul, hy, hprod0, show (4294967296 : UInt64).toNat = 4294967296 from rfl, show (0 : UInt64).toNat = 0 from rfl]
      generalize un21.toNat % (m * 256) = s at *
      generalize q0.toNat * (m * 256) = A at *
      omega
    rw [← UInt64.toNat_inj, show ((40 : Int)) = ((40 : Nat) : Int) from rfl, dp _ _ (by omega), show ((40 : Nat) : Int) = 40 from rfl, e3]
    unfold Hh
    rw [hm, UInt64.toNat_ofNat', d2]
    exact Xe (by omega)
theorem Jq {y : UInt64} (h : dz y = true) : ∃ m, y.toNat = m ∧ (bC y 40).toNat = m * 1099511627776 ∧ (aP (bC y 40) 32).toNat = m * 256 ∧ bC y 40 &&& 4294967295 = 0 ∧ 0 < m ∧ m < 16777216 := by
  rcases cD h with rfl | rfl
  · exact ⟨16513537, rfl, by decide +kernel, by decide +kernel, by decide +kernel, by omega, by omega⟩
  · exact ⟨16521217, rfl, by decide +kernel, by decide +kernel, by decide +kernel, by omega, by omega⟩
theorem WD : ab Try.prog 76 (dV.aE mS Em) := Ln B4 H0 B3 HZ WG WE _ _ fun x oy hp ho => by
  rw [← ho]
  clear ho
  obtain ⟨⟨h, l, y, ⟨⟩⟩, ⟨⟩⟩ := x
  have hp' : (dz y && decide (h < y)) = true := hp
  rw [Bool.and_eq_true] at hp'
  obtain ⟨hs, hlt⟩ := hp'
  have hlt := of_decide_eq_true hlt
  obtain ⟨m, f1, f2, f3, f4, f5, f6⟩ := Jq hs
  have hh : h.toNat < m := by rw [← f1]; exact UInt64.lt_iff_toNat_lt.1 hlt
  have hy0 : ¬ y = 0 := fun e => by rw [e] at f1; simp at f1; omega
  have hyb : (y == 0) = false := by simpa using hy0
  have hle : decide (y ≤ h) = false := wZ hlt
  unfold vB
  refine (OT.ay hyb).trans ((OT.ay hle).trans ?_)
  by_cases h0 : h = 0
  · subst h0
    refine (OT.ax rfl).trans ((aj ?_).trans ?_)
    · simp only [hyb, List.all_cons, List.all_nil, Bool.and_true, Bool.not_false]
    · have e1 : aei 0 l y = l / y := by
        rw [← UInt64.toNat_inj]
        unfold aei
        rw [UInt64.toNat_ofNat', UInt64.toNat_div, show (0 : UInt64).toNat = 0 from rfl, Nat.zero_mul, Nat.zero_add]
        exact Nat.mod_eq_of_lt (Nat.lt_of_le_of_lt (Nat.div_le_self _ _) l.toNat_lt)
      have e2 : Hh 0 l y = l % y := by
        rw [← UInt64.toNat_inj]
        unfold Hh
        rw [UInt64.toNat_ofNat', UInt64.toNat_mod, show (0 : UInt64).toNat = 0 from rfl, Nat.zero_mul, Nat.zero_add]
        exact Nat.mod_eq_of_lt (Nat.lt_of_le_of_lt (Nat.mod_le _ _) l.toNat_lt)
      simp only [Em, e1, e2]
  · have hb : (h == 0) = false := by simpa using h0
    obtain ⟨w1, w2, w3, w4⟩ := HW (l := l) f1 f2 f3 f4 f5 f6 hh
    have hz : (!(aP (bC y 40) 32 == 0)) = true := by
      have : ¬ aP (bC y 40) 32 = 0 := fun e => by rw [e] at f3; simp at f3; omega
      simpa using this
    refine (OT.ay hb).trans ((aj ?_).trans ?_)
    · simp only [List.all_cons, List.all_nil, Bool.and_true, Bool.and_eq_true]
      exact ⟨hs, hz, decide_eq_true ⟨f4, w1⟩, hz, decide_eq_true ⟨f4, w2⟩⟩
    · show some (⟨jB, ((_, aP _ ((40 : UInt64).toNat : Int), ()), ())⟩ : dV.Y) = some ⟨jB, ((aei h l y, Hh h l y, ()), ())⟩
      rw [← w3, ← w4]
      rfl
def oC : bO := (dV.aE mS Em)
theorem HY : ab Try.prog 76 oC := WD
theorem HX : aD oC := aA
def nr : Env := av 76 oC oX
theorem kp : aN Try.prog nr := ah HY jI
theorem rz : ar nr := ac HX uX
theorem uY : aY Try.prog te nr := aG follows ao kp rz
def kz : ak := ⟨[.val true .elem, .val true .elem], [], true, 0, false⟩
abbrev Pj : Type := ((ag) × (ag) × Unit) × (Unit)
def vU : Shape := ⟨29, [(2, .ptr 0 0 0), (3, .ptr 1 0 0), (4, .ptr 2 0 0), (6, .ptr 3 0 0), (7, .val false .u64), (9, .val false .int)], [(0, .row .u64), (1, .row .u64), (2, .row .u64), (3, .row .u64)], 0, true⟩
abbrev cq : Type := ((Unit) × (Unit) × (Unit) × (Unit) × (UInt64) × (Int) × Unit) × ((List (UInt64)) × (List (UInt64)) × (List (UInt64)) × (List (UInt64)) × Unit)
def o7 : Shape := ⟨29, [(4, .ptr 0 0 0), (6, .ptr 1 0 0), (7, .val false .u64)], [(0, .row .u64), (1, .row .u64)], 0, true⟩
abbrev iU : Type := ((Unit) × (Unit) × (UInt64) × Unit) × ((List (UInt64)) × (List (UInt64)) × Unit)
def RS : SE → Option Shape := nt [(0, o7)] none
def abe (a7 : UInt64) (a9 : Int) (c0 : List (UInt64)) (c1 : List (UInt64)) (c2 : List (UInt64)) (c3 : List (UInt64)) : OT (Sum cq aS) :=
  let z0 : Bool := inB a9 4
  let z1 : UInt64 := List.getD c0 (Int.toNat a9 + 0) (0 : UInt64)
  let z2 : UInt64 := List.getD c1 (Int.toNat a9 + 0) (0 : UInt64)
  (.br (decide (a9 < (4 : Int)))
  (gd [z0, decide (Int.toNat a9 + 0 < List.length c0), z0, decide (Int.toNat a9 + 0 < List.length c1), tf ((z1, z2, a7, ()), ()), z0, decide (Int.toNat a9 + 0 < List.length c3), inR (a9 + (1 : Int))] (.ok (.inl (((), ((), ((), ((), (o1 z1 z2 a7, (a9 + (1 : Int), ())))))), (c0, (c1, (c2, (List.set c3 (Int.toNat a9 + 0) (nv z1 z2 a7), ()))))))))
  (.ok (.inr ⟨(.exit 0, o7), (((), ((), (a7, ()))), (c2, (c3, ())))⟩)))
def vV (s : cq) : OT (Sum cq aS) := abe (s.1.2.2.2.2.1) (s.1.2.2.2.2.2.1) (s.2.1) (s.2.2.1) (s.2.2.2.1) (s.2.2.2.2.1)
theorem abb (s : cq) (Q : Sum cq aS → Prop) : wps te nr az 1000 (bM (al Try.f88) 0) (vU.inj s) (dm vU RS (Q : Sum vU.T aS → Prop)) = (vV s).wpR Q := by kernel_rfl
def Cw (g0_0 : cq → iU) (s : cq) : OT aS := (.ok ⟨(.exit 0, o7), g0_0 s⟩)
def IY : aq := ⟨[.val true .elem, .val false .bool], [], false⟩
def L8 : SV → Option aq := fun _ => some IY
def RV (ok0 : cq → Bool) (g0_0 : cq → iU) (a0 : ag) (a1 : ag) : OT kz.Y :=
  let z0 : (PUnit × PUnit × PUnit × PUnit × UInt64 × Int × PUnit) × List UInt64 × List UInt64 × List UInt64 × List UInt64 × PUnit := (((), (), (), (), (0 : UInt64), (0 : Int), ()), [a0.w0, a0.w1, a0.w2, a0.w3], [a1.w0, a1.w1, a1.w2, a1.w3], [(0 : UInt64), (0 : UInt64), (0 : UInt64), (0 : UInt64)], [(0 : UInt64), (0 : UInt64), (0 : UInt64), (0 : UInt64)], ())
  let z1 : (PUnit × PUnit × UInt64 × PUnit) × List UInt64 × List UInt64 × PUnit := g0_0 z0
  let z2 := z1.snd
  let z3 := z2.snd.fst
  let z4 := z2.fst
  let z5 : List UInt64 := lay z4 z3 4 (0 : UInt64)
  (gd [ok0 z0, decide (4 ≤ List.length z3), decide ((4 / 1 : Nat) + 0 ≤ List.length z4), decide (4 ≤ List.length z5)] (.ok ⟨IY, (({ w0 := List.getD z5 0 0, w1 := List.getD z5 1 0, w2 := List.getD z5 2 0, w3 := List.getD z5 3 0 }, (!z1.fst.snd.snd.fst == (0 : UInt64), ())), ())⟩))
theorem aep (ok0 : cq → Bool) (g0_0 : cq → iU) (x : Pj) (Q : kz.Y → Prop) : wpf te nr (bK 0 (dZ vU 0 ok0 (Cw g0_0)) az) 1000 Try.f88 (kz.inp.inj x).tm (kz.inp.inj x).hp (fnK kz L8 Q) (fun _ _ => False) = (RV ok0 g0_0 (x.1.1) (x.1.2.1)).wpR Q := by kernel_rfl
theorem RT (ok0 : cq → Bool) (g0_0 : cq → iU) (h0 : ∀ s : cq, ok0 s = true → ∃ m e, aB (vV) m s = some e ∧ (Cw g0_0 s).run = some e) (pre : Pj → Bool) (F : Pj → OT kz.Y) (hF : ∀ (x : Pj) oy, pre x = true → (F x).run = some oy → (RV ok0 g0_0 (x.1.1) (x.1.2.1)).run = some oy) : ab Try.prog 88 (kz.aE pre F) :=
  aC ao kp uY (f := 88) (fn := Try.f88) (c := al Try.f88) (by kernel_rfl) (by kernel_rfl) (by kernel_rfl) (S := kz) (k := 0) (by kernel_rfl) (fun R hR => (aL (c := (al Try.f88)) (by kernel_rfl) (id := 0) (by kernel_rfl) (bJ ao kp uY (sh := vU) hR (xs := RS) (aI (by kernel_rfl) (by kernel_rfl) hR) bk ae (n := 1000) (T := vV) (fun s Q => abb s Q) (ok := ok0) (f := Cw g0_0) h0) ae)) (n := 1000) (sel := L8) (fun v o h => by cases h; rfl) (pre := pre) (F := F) (T := fun x => RV ok0 g0_0 (x.1.1) (x.1.2.1)) (fun x Q => aep ok0 g0_0 x Q) hF
def Ag (a b : List UInt64) (k : Nat) (s : List UInt64 × UInt64) : List UInt64 × UInt64 := (s.1.set k (nv (a.getD k 0) (b.getD k 0) s.2), o1 (a.getD k 0) (b.getD k 0) s.2)
def Ma (s : cq) : Bool := decide (s.1.2.2.2.2.1 = 0 ∧ s.1.2.2.2.2.2.1 = 0 ∧ s.2.1.length = 4 ∧ s.2.2.1.length = 4 ∧ s.2.2.2.2.1 = [0, 0, 0, 0])
def RU (s : cq) : iU := (((), (), (upto (Ag s.2.1 s.2.2.1) ([0, 0, 0, 0], 0) 4).2, ()), (s.2.2.2.1, (upto (Ag s.2.1 s.2.2.1) ([0, 0, 0, 0], 0) 4).1, ()))
theorem abd : ∀ s : cq, Ma s = true → ∃ m e, aB vV m s = some e ∧ (Cw RU s).run = some e := by
  rintro ⟨⟨⟨⟩, ⟨⟩, ⟨⟩, ⟨⟩, c, i, ⟨⟩⟩, ⟨c0, c1, c2, c3, ⟨⟩⟩⟩ h
  have h' := of_decide_eq_true h
  dsimp only at h'
  obtain ⟨rfl, rfl, h0, h1, rfl⟩ := h'
  have := (bt (T := vV) (fun k s => ((((), (), (), (), s.2, (k : Int), ()), (c0, c1, c2, s.1, ())) : cq)) (Ag c0 c1)
    (fun s => (⟨(.exit 0, o7), (((), (), s.2, ()), (c2, s.1, ()))⟩ : aS)) 4 ([0, 0, 0, 0], 0) (fun _ s => s.1.length = 4 ∧ s.2.toNat ≤ 1) ⟨rfl, by decide⟩ (fun k s hk hs => ⟨?_, ?_⟩) (fun s hs => ?_)).1
  · obtain ⟨m, hm⟩ := this
    exact ⟨m, _, hm, rfl⟩
  · refine (OT.ax (decide_eq_true (by dsimp only; omega))).trans ((aj ?_).trans ?_)
    · simp only [Int.toNat_natCast, Nat.add_zero, h0, h1, hs.1, List.all_cons, List.all_nil, Bool.and_true, Bool.and_eq_true]
      exact ⟨aQ (by omega), decide_eq_true (by omega), aQ (by omega), decide_eq_true (by omega), decide_eq_true hs.2, aQ (by omega), decide_eq_true (by omega), aX (by omega)⟩
    · simp only [OT.dq, Int.toNat_natCast, Nat.add_zero]
      rfl
  · exact ⟨by simp only [Ag, List.length_set]; exact hs.1, tj hs.2⟩
  · exact OT.ay (decide_eq_false (by dsimp only; omega))
theorem age (x y : List UInt64) (hx : x.length = 4) (hy : y.length = 4) : lay x y 4 0 = y := Gh hx hy
def L9 (_ : Pj) : Bool := true
def RW (x : Pj) : OT kz.Y := .ok ⟨IY, (((tP x.1.1 x.1.2.1).1, ((tP x.1.1 x.1.2.1).2, ())), ())⟩
theorem abc : ab Try.prog 88 (kz.aE L9 RW) := RT Ma RU abd _ _ fun x oy hp ho => by
  rw [← ho]
  clear ho
  obtain ⟨⟨a, b, ⟨⟩⟩, ⟨⟩⟩ := x
  obtain ⟨_, hw⟩ := Ak a b
  refine (aj ?_).trans ?_
  · simp only [List.all_cons, List.all_nil, Bool.and_true, Bool.and_eq_true]
    exact ⟨rfl, rfl, rfl, rfl⟩
  · simp only [RW, hw]
    rfl
def vT : bO := (kz.aE L9 RW)
theorem Ph : ab Try.prog 88 vT := abc
theorem Pg : aD vT := aA
def Cb : Env := av 88 vT nr
theorem qI : aN Try.prog Cb := ah Ph kp
theorem yR : ar Cb := ac Pg rz
theorem Ca : aY Try.prog te Cb := aG follows ao qI yR
def ku : ak := ⟨[.val true .elem, .val true .elem], [], true, 0, false⟩
abbrev Pa : Type := ((ag) × (ag) × Unit) × (Unit)
def vL : Shape := ⟨29, [(2, .ptr 0 0 0), (3, .ptr 1 0 0), (4, .ptr 2 0 0), (6, .ptr 3 0 0), (7, .val false .u64), (9, .val false .int)], [(0, .row .u64), (1, .row .u64), (2, .row .u64), (3, .row .u64)], 0, true⟩
abbrev cp : Type := ((Unit) × (Unit) × (Unit) × (Unit) × (UInt64) × (Int) × Unit) × ((List (UInt64)) × (List (UInt64)) × (List (UInt64)) × (List (UInt64)) × Unit)
def o3 : Shape := ⟨29, [(4, .ptr 0 0 0), (6, .ptr 1 0 0), (7, .val false .u64)], [(0, .row .u64), (1, .row .u64)], 0, true⟩
abbrev iT : Type := ((Unit) × (Unit) × (UInt64) × Unit) × ((List (UInt64)) × (List (UInt64)) × Unit)
def RD : SE → Option Shape := nt [(0, o3)] none
def aa5 (a7 : UInt64) (a9 : Int) (c0 : List (UInt64)) (c1 : List (UInt64)) (c2 : List (UInt64)) (c3 : List (UInt64)) : OT (Sum cp aS) :=
  let z0 : Bool := inB a9 4
  let z1 : UInt64 := List.getD c0 (Int.toNat a9 + 0) (0 : UInt64)
  let z2 : UInt64 := List.getD c1 (Int.toNat a9 + 0) (0 : UInt64)
  (.br (decide (a9 < (4 : Int)))
  (gd [z0, decide (Int.toNat a9 + 0 < List.length c0), z0, decide (Int.toNat a9 + 0 < List.length c1), sZ ((z1, z2, a7, ()), ()), z0, decide (Int.toNat a9 + 0 < List.length c3), inR (a9 + (1 : Int))] (.ok (.inl (((), ((), ((), ((), (EN z1 z2 a7, (a9 + (1 : Int), ())))))), (c0, (c1, (c2, (List.set c3 (Int.toNat a9 + 0) (jR z1 z2 a7), ()))))))))
  (.ok (.inr ⟨(.exit 0, o3), (((), ((), (a7, ()))), (c2, (c3, ())))⟩)))
def vM (s : cp) : OT (Sum cp aS) := aa5 (s.1.2.2.2.2.1) (s.1.2.2.2.2.2.1) (s.2.1) (s.2.2.1) (s.2.2.2.1) (s.2.2.2.2.1)
theorem aa2 (s : cp) (Q : Sum cp aS → Prop) : wps te Cb az 1000 (bM (al Try.f77) 0) (vL.inj s) (dm vL RD (Q : Sum vL.T aS → Prop)) = (vM s).wpR Q := by kernel_rfl
def Cr (g0_0 : cp → iT) (s : cp) : OT aS := (.ok ⟨(.exit 0, o3), g0_0 s⟩)
def IP : aq := ⟨[.val true .elem, .val false .bool], [], false⟩
def LX : SV → Option aq := fun _ => some IP
def RG (ok0 : cp → Bool) (g0_0 : cp → iT) (a0 : ag) (a1 : ag) : OT ku.Y :=
  let z0 : (PUnit × PUnit × PUnit × PUnit × UInt64 × Int × PUnit) × List UInt64 × List UInt64 × List UInt64 × List UInt64 × PUnit := (((), (), (), (), (0 : UInt64), (0 : Int), ()), [a0.w0, a0.w1, a0.w2, a0.w3], [a1.w0, a1.w1, a1.w2, a1.w3], [(0 : UInt64), (0 : UInt64), (0 : UInt64), (0 : UInt64)], [(0 : UInt64), (0 : UInt64), (0 : UInt64), (0 : UInt64)], ())
  let z1 : (PUnit × PUnit × UInt64 × PUnit) × List UInt64 × List UInt64 × PUnit := g0_0 z0
  let z2 := z1.snd
  let z3 := z2.snd.fst
  let z4 := z2.fst
  let z5 : List UInt64 := lay z4 z3 4 (0 : UInt64)
  (gd [ok0 z0, decide (4 ≤ List.length z3), decide ((4 / 1 : Nat) + 0 ≤ List.length z4), decide (4 ≤ List.length z5)] (.ok ⟨IP, (({ w0 := List.getD z5 0 0, w1 := List.getD z5 1 0, w2 := List.getD z5 2 0, w3 := List.getD z5 3 0 }, (!z1.fst.snd.snd.fst == (0 : UInt64), ())), ())⟩))
theorem aen (ok0 : cp → Bool) (g0_0 : cp → iT) (x : Pa) (Q : ku.Y → Prop) : wpf te Cb (bK 0 (dZ vL 0 ok0 (Cr g0_0)) az) 1000 Try.f77 (ku.inp.inj x).tm (ku.inp.inj x).hp (fnK ku LX Q) (fun _ _ => False) = (RG ok0 g0_0 (x.1.1) (x.1.2.1)).wpR Q := by kernel_rfl
theorem RE (ok0 : cp → Bool) (g0_0 : cp → iT) (h0 : ∀ s : cp, ok0 s = true → ∃ m e, aB (vM) m s = some e ∧ (Cr g0_0 s).run = some e) (pre : Pa → Bool) (F : Pa → OT ku.Y) (hF : ∀ (x : Pa) oy, pre x = true → (F x).run = some oy → (RG ok0 g0_0 (x.1.1) (x.1.2.1)).run = some oy) : ab Try.prog 77 (ku.aE pre F) :=
  aC ao qI Ca (f := 77) (fn := Try.f77) (c := al Try.f77) (by kernel_rfl) (by kernel_rfl) (by kernel_rfl) (S := ku) (k := 0) (by kernel_rfl) (fun R hR => (aL (c := (al Try.f77)) (by kernel_rfl) (id := 0) (by kernel_rfl) (bJ ao qI Ca (sh := vL) hR (xs := RD) (aI (by kernel_rfl) (by kernel_rfl) hR) bk ae (n := 1000) (T := vM) (fun s Q => aa2 s Q) (ok := ok0) (f := Cr g0_0) h0) ae)) (n := 1000) (sel := LX) (fun v o h => by cases h; rfl) (pre := pre) (F := F) (T := fun x => RG ok0 g0_0 (x.1.1) (x.1.2.1)) (fun x Q => aen ok0 g0_0 x Q) hF
def zP (a b : List UInt64) (k : Nat) (s : List UInt64 × UInt64) : List UInt64 × UInt64 := (s.1.set k (jR (a.getD k 0) (b.getD k 0) s.2), EN (a.getD k 0) (b.getD k 0) s.2)
def LZ (s : cp) : Bool := decide (s.1.2.2.2.2.1 = 0 ∧ s.1.2.2.2.2.2.1 = 0 ∧ s.2.1.length = 4 ∧ s.2.2.1.length = 4 ∧ s.2.2.2.2.1 = [0, 0, 0, 0])
def RF (s : cp) : iT := (((), (), (upto (zP s.2.1 s.2.2.1) ([0, 0, 0, 0], 0) 4).2, ()), (s.2.2.2.1, (upto (zP s.2.1 s.2.2.1) ([0, 0, 0, 0], 0) 4).1, ()))
theorem aa4 : ∀ s : cp, LZ s = true → ∃ m e, aB vM m s = some e ∧ (Cr RF s).run = some e := by
  rintro ⟨⟨⟨⟩, ⟨⟩, ⟨⟩, ⟨⟩, c, i, ⟨⟩⟩, ⟨c0, c1, c2, c3, ⟨⟩⟩⟩ h
  have h' := of_decide_eq_true h
  dsimp only at h'
  obtain ⟨rfl, rfl, h0, h1, rfl⟩ := h'
  have := (bt (T := vM) (fun k s => ((((), (), (), (), s.2, (k : Int), ()), (c0, c1, c2, s.1, ())) : cp)) (zP c0 c1)
    (fun s => (⟨(.exit 0, o3), (((), (), s.2, ()), (c2, s.1, ()))⟩ : aS)) 4 ([0, 0, 0, 0], 0) (fun _ s => s.1.length = 4 ∧ s.2.toNat ≤ 1) ⟨rfl, by decide⟩ (fun k s hk hs => ⟨?_, ?_⟩) (fun s hs => ?_)).1
  · obtain ⟨m, hm⟩ := this
    exact ⟨m, _, hm, rfl⟩
  · refine (OT.ax (decide_eq_true (by dsimp only; omega))).trans ((aj ?_).trans ?_)
    · simp only [Int.toNat_natCast, Nat.add_zero, h0, h1, hs.1, List.all_cons, List.all_nil, Bool.and_true, Bool.and_eq_true]
      exact ⟨aQ (by omega), decide_eq_true (by omega), aQ (by omega), decide_eq_true (by omega), decide_eq_true hs.2, aQ (by omega), decide_eq_true (by omega), aX (by omega)⟩
    · simp only [OT.dq, Int.toNat_natCast, Nat.add_zero]
      rfl
  · exact ⟨by simp only [zP, List.length_set]; exact hs.1, rW⟩
  · exact OT.ay (decide_eq_false (by dsimp only; omega))
def LY (_ : Pa) : Bool := true
def RH (x : Pa) : OT ku.Y := .ok ⟨IP, (((nu x.1.1 x.1.2.1).1, ((nu x.1.1 x.1.2.1).2, ())), ())⟩
theorem aa3 : ab Try.prog 77 (ku.aE LY RH) := RE LZ RF aa4 _ _ fun x oy hp ho => by
  rw [← ho]
  clear ho
  obtain ⟨⟨a, b, ⟨⟩⟩, ⟨⟩⟩ := x
  obtain ⟨_, hw⟩ := Aq a b
  refine (aj ?_).trans ?_
  · simp only [List.all_cons, List.all_nil, Bool.and_true, Bool.and_eq_true]
    exact ⟨rfl, rfl, rfl, rfl⟩
  · simp only [RH, hw]
    rfl
def vK : bO := (ku.aE LY RH)
theorem O9 : ab Try.prog 77 vK := aa3
theorem O8 : aD vK := aA
def Ie : Env := av 77 vK Cb
theorem yM : aN Try.prog Ie := ah O9 qI
theorem yN : ar Ie := ac O8 yR
theorem Rr : aY Try.prog te Ie := aG follows ao yM yN
def gl : ak := ⟨[.val true .elem, .val true .elem], [], true, 0, false⟩
abbrev Ap : Type := ((ag) × (ag) × Unit) × (Unit)
def Cv : aq := ⟨[.val false .bool], [], false⟩
def EV : SV → Option aq := fun _ => some Cv
def IX (a0 : ag) (a1 : ag) : OT gl.Y :=
  (.ok ⟨Cv, (((nu a0 a1).snd, ()), ())⟩)
theorem aa9 (x : Ap) (Q : gl.Y → Prop) : wpf te Ie az 1000 Try.f62 (gl.inp.inj x).tm (gl.inp.inj x).hp (fnK gl EV Q) (fun _ _ => False) = (IX (x.1.1) (x.1.2.1)).wpR Q := by kernel_rfl
theorem Pf (pre : Ap → Bool) (F : Ap → OT gl.Y) (hF : ∀ (x : Ap) oy, pre x = true → (F x).run = some oy → (IX (x.1.1) (x.1.2.1)).run = some oy) : ab Try.prog 62 (gl.aE pre F) :=
  aC ao yM Rr (f := 62) (fn := Try.f62) (c := al Try.f62) (by kernel_rfl) (by kernel_rfl) (by kernel_rfl) (S := gl) (k := 0) (by kernel_rfl) (fun R hR => ae) (n := 1000) (sel := EV) (fun v o h => by cases h; rfl) (pre := pre) (F := F) (T := fun x => IX (x.1.1) (x.1.2.1)) (fun x Q => aa9 x Q) hF
def EW (_ : Ap) : Bool := true
def RR (x : Ap) : OT gl.Y := .ok ⟨Cv, ((Nat.blt x.1.1.nat x.1.2.1.nat, ()), ())⟩
theorem Xg : ab Try.prog 62 (gl.aE EW RR) := Pf _ _ fun x oy _ ho => ho
def rI : bO := (gl.aE EW RR)
theorem IW : ab Try.prog 62 rI := Xg
theorem IV : aD rI := aA
def tl : Env := av 62 rI Ie
theorem ni : aN Try.prog tl := ah IW yM
theorem uz : ar tl := ac IV yN
theorem yQ : aY Try.prog te tl := aG follows ao ni uz
end Go.Proofs.Ytohjofabochgfaa

namespace Go.Proofs.Ytohjofabochgfaa
open Sx Go
theorem vl (x b : UInt64) (hb : b.toNat ≤ 1) : 2 * x.toNat + b.toNat = (bC x 1 ||| b).toNat + 18446744073709551616 * (aP x 63).toNat := by
  have hx := x.toNat_lt
  have e1 : (bC x 1).toNat = 2 ^ 1 * (x.toNat % 9223372036854775808) := by
    have e : (bC x 1).toNat = x.toNat * 2 ^ 1 % 2 ^ 64 := gE x 1 (by omega)
    rw [e]
    omega
  have e2 : (aP x 63).toNat = x.toNat / 2 ^ 63 := dp x 63 (by omega)
  have e3 := Nat.two_pow_add_eq_or_of_lt (i := 1) (b := b.toNat) (by omega) (x.toNat % 9223372036854775808)
  rw [UInt64.toNat_or, e1, ← e3, e2]
  omega
theorem CL (x : UInt64) : (aP x 63).toNat ≤ 1 := by
  have hx := x.toNat_lt
  have e2 : (aP x 63).toNat = x.toNat / 2 ^ 63 := dp x 63 (by omega)
  rw [e2]
  omega
def bY (a : ag) (b : UInt64) : ag × UInt64 := (⟨bC a.w0 1 ||| b, bC a.w1 1 ||| aP a.w0 63, bC a.w2 1 ||| aP a.w1 63, bC a.w3 1 ||| aP a.w2 63⟩, aP a.w3 63)
theorem Pz (a : ag) (b : UInt64) (hb : b.toNat ≤ 1) : 2 * a.nat + b.toNat = (bY a b).1.nat + 115792089237316195423570985008687907853269984665640564039457584007913129639936 * (bY a b).2.toNat := by
  have h0 := vl a.w0 b hb
  have h1 := vl a.w1 _ (CL a.w0)
  have h2 := vl a.w2 _ (CL a.w1)
  have h3 := vl a.w3 _ (CL a.w2)
  unfold bY Sx.ag.nat
  dsimp only
  omega
def TR (m r : ag) (b : UInt64) : ag := cond (!((bY r b).2 == 0)) (nu (bY r b).1 m).1 (cond (!(nu (bY r b).1 m).2) (nu (bY r b).1 m).1 (bY r b).1)
theorem NU {n m : Nat} (h1 : m ≤ n) (h2 : n < 2 * m) : n - m = n % m := by
  rw [Nat.mod_eq_sub_mod h1, Nat.mod_eq_of_lt (by omega)]
theorem YQ {m r : ag} {b : UInt64} (hb : b.toNat ≤ 1) (hr : r.nat < m.nat) : (TR m r b).nat = (2 * r.nat + b.toNat) % m.nat := by
  have h := Pz r b hb
  have hm := jg m
  have hs := jg (bY r b).1
  have h2 : (bY r b).2.toNat ≤ 1 := CL _
  have hw : (nu (bY r b).1 m).1.nat = ((bY r b).1.nat + 115792089237316195423570985008687907853269984665640564039457584007913129639936 - m.nat) % 115792089237316195423570985008687907853269984665640564039457584007913129639936 := by
    unfold nu
    exact C9 _
  unfold TR
  cases ho : (bY r b).2 == 0
  · have ho : (bY r b).2.toNat = 1 := by
      have : (bY r b).2.toNat ≠ 0 := fun e => by
        have e' : (bY r b).2 = 0 := UInt64.toNat_inj.1 e
        rw [e'] at ho
        cases ho
      omega
    show (nu (bY r b).1 m).1.nat = _
    rw [hw, ← NU (n := 2 * r.nat + b.toNat) (by omega) (by omega), Nat.mod_eq_of_lt (by omega)]
    omega
  · have ho : (bY r b).2.toNat = 0 := by
      rw [beq_iff_eq] at ho
      rw [ho]
      rfl
    have e : 2 * r.nat + b.toNat = (bY r b).1.nat := by omega
    cases hu : (nu (bY r b).1 m).2
    · have hu' : m.nat ≤ (bY r b).1.nat := by
        rw [L7] at hu
        exact Nat.le_of_not_lt fun h' => by rw [(Nat.blt_eq ..).mpr h'] at hu; cases hu
      show (nu (bY r b).1 m).1.nat = _
      rw [o6 hu', e, NU hu' (by omega)]
    · have hu' : (bY r b).1.nat < m.nat := by
        rw [L7] at hu
        exact (Nat.blt_eq ..).mp hu
      show (bY r b).1.nat = _
      rw [e, Nat.mod_eq_of_lt hu']
def Aa (a : ag) (i : Nat) : UInt64 := aP ((lst a).getD (i / 64) 0) ((i % 64 : Nat) : Int) &&& 1
theorem Z0 (a : ag) {i : Nat} (hi : i < 256) : (Aa a i).toNat = a.nat / 2 ^ i % 2 := by
  have e : ∀ x : UInt64, (x &&& 1).toNat = x.toNat % 2 := fun x => by
    rw [UInt64.toNat_and]
    exact Nat.and_two_pow_sub_one_eq_mod x.toNat 1
  unfold Aa
  rw [e, dp _ _ (by omega), OX (by omega) (by omega), show 64 * (i / 64) + i % 64 = i by omega]
def W9 (m a r : ag) : Nat → ag := upto (fun k r => TR m r (Aa a (255 - k))) r
theorem CN {m a r : ag} (hr : r.nat < m.nat) : ∀ k, k ≤ 256 → (W9 m a r k).nat = (r.nat * 2 ^ k + a.nat / 2 ^ (256 - k)) % m.nat ∧ (W9 m a r k).nat < m.nat
  | 0, _ => by
    have h := jg a
    refine ⟨?_, hr⟩
    show r.nat = _
    rw [Nat.pow_zero, Nat.mul_one, Nat.div_eq_of_lt h, Nat.add_zero, Nat.mod_eq_of_lt hr]
  | k + 1, hk => by
    obtain ⟨h1, h2⟩ := CN (a := a) hr k (by omega)
    have hb := Z0 a (i := 255 - k) (by omega)
    have hb1 : (Aa a (255 - k)).toNat ≤ 1 := by omega
    have h3 := YQ hb1 h2
    have e : (W9 m a r (k + 1)).nat = (2 * (W9 m a r k).nat + (Aa a (255 - k)).toNat) % m.nat := h3
    have e2 : a.nat / 2 ^ (255 - k) = 2 * (a.nat / 2 ^ (256 - k)) + (Aa a (255 - k)).toNat := by
      rw [hb, show 256 - k = 255 - k + 1 by omega, Nat.pow_succ, ← Nat.div_div_eq_div_mul]
      omega
    refine ⟨?_, ?_⟩
    · rw [e, h1, show 256 - (k + 1) = 255 - k by omega, e2, Nat.pow_succ]
      rw [← Nat.mod_add_mod, Nat.mul_mod_mod, Nat.mod_add_mod]
      congr 1
      rw [Nat.mul_add, ← Nat.mul_assoc, Nat.mul_comm (2 ^ k) 2, ← Nat.mul_assoc, Nat.mul_comm r.nat 2, Nat.add_assoc]
    · rw [e]
      exact Nat.mod_lt _ (by omega)
def aeb (lo hi m : ag) : ag := ofN ((lo.nat + 115792089237316195423570985008687907853269984665640564039457584007913129639936 * hi.nat) % m.nat)
theorem YR {m lo hi : ag} (hm : 0 < m.nat) : W9 m lo (W9 m hi ⟨0, 0, 0, 0⟩ 256) 256 = aeb lo hi m := by
  have h0 : (⟨0, 0, 0, 0⟩ : ag).nat < m.nat := hm
  obtain ⟨h1, h2⟩ := CN (a := hi) h0 256 (Nat.le_refl _)
  obtain ⟨h3, h4⟩ := CN (a := lo) h2 256 (Nat.le_refl _)
  have hl := jg m
  refine ob ?_
  unfold aeb
  rw [h3, h1, iQ (Nat.lt_trans (Nat.mod_lt _ hm) hl), show 256 - 256 = 0 from rfl, Nat.pow_zero, Nat.div_one, Nat.div_one, show (⟨0, 0, 0, 0⟩ : ag).nat = 0 from rfl, Nat.zero_mul, Nat.zero_add, ← Nat.mod_add_mod, Nat.mod_mul_mod, Nat.mod_add_mod, Nat.mul_comm, Nat.add_comm]
end Go.Proofs.Ytohjofabochgfaa

namespace Go.Proofs.Ytohjofabochgfaa
open Sx Go
set_option maxRecDepth 100000
def eu : ak := ⟨[.val true .elem, .val false .u64], [], true, 0, false⟩
abbrev rD : Type := ((ag) × (UInt64) × Unit) × (Unit)
def kv : Shape := ⟨25, [(1, .val false .u64), (2, .ptr 0 0 0), (4, .ptr 1 0 0), (7, .val false .int)], [(0, .row .u64), (1, .row .u64)], 0, true⟩
abbrev bz : Type := ((UInt64) × (Unit) × (Unit) × (Int) × Unit) × ((List (UInt64)) × (List (UInt64)) × Unit)
def jK : Shape := ⟨25, [(1, .val false .u64), (2, .ptr 0 0 0), (4, .ptr 1 0 0)], [(0, .row .u64), (1, .row .u64)], 0, true⟩
abbrev fx : Type := ((UInt64) × (Unit) × (Unit) × Unit) × ((List (UInt64)) × (List (UInt64)) × Unit)
def EP : SE → Option Shape := nt [(0, jK)] none
def RL (a1 : UInt64) (a7 : Int) (c0 : List (UInt64)) (c1 : List (UInt64)) : OT (Sum bz aS) :=
  let z0 : Bool := inB a7 4
  let z1 : Bool := decide (Int.toNat a7 + 0 < List.length c0)
  let z2 : UInt64 := List.getD c0 (Int.toNat a7 + 0) (0 : UInt64)
  (.br (decide (a7 < (4 : Int)))
  (gd [z0, z1, z0, z1, z0, z1, inR (a7 + (1 : Int))] (.ok (.inl ((aP z2 (63 : Int), ((), ((), (a7 + (1 : Int), ())))), (List.set c0 (Int.toNat a7 + 0) (bC z2 (1 : Int) ||| a1), (c1, ()))))))
  (.ok (.inr ⟨(.exit 0, jK), ((a1, ((), ((), ()))), (c0, (c1, ())))⟩)))
def kw (s : bz) : OT (Sum bz aS) := RL (s.1.1) (s.1.2.2.2.1) (s.2.1) (s.2.2.1)
theorem RI (s : bz) (Q : Sum bz aS → Prop) : wps te tl az 1000 (bM (al Try.f130) 0) (kv.inj s) (dm kv EP (Q : Sum kv.T aS → Prop)) = (kw s).wpR Q := by kernel_rfl
def o4 (g0_0 : bz → fx) (s : bz) : OT aS := (.ok ⟨(.exit 0, jK), g0_0 s⟩)
def vN : aq := ⟨[.val true .elem, .val false .u64], [], false⟩
def Al : SV → Option aq := fun _ => some vN
def Cs (ok0 : bz → Bool) (g0_0 : bz → fx) (a0 : ag) (a1 : UInt64) : OT eu.Y :=
  let z0 : (UInt64 × PUnit × PUnit × Int × PUnit) × List UInt64 × List UInt64 × PUnit := ((a1, (), (), (0 : Int), ()), [a0.w0, a0.w1, a0.w2, a0.w3], [(0 : UInt64), (0 : UInt64), (0 : UInt64), (0 : UInt64)], ())
  let z1 : (UInt64 × PUnit × PUnit × PUnit) × List UInt64 × List UInt64 × PUnit := g0_0 z0
  let z2 := z1.snd
  let z3 := z2.fst
  let z4 := z2.snd.fst
  let z5 : List UInt64 := lay z4 z3 4 (0 : UInt64)
  (gd [ok0 z0, decide (4 ≤ List.length z3), decide ((4 / 1 : Nat) + 0 ≤ List.length z4), decide (4 ≤ List.length z5)] (.ok ⟨vN, (({ w0 := List.getD z5 0 0, w1 := List.getD z5 1 0, w2 := List.getD z5 2 0, w3 := List.getD z5 3 0 }, (z1.fst.fst, ())), ())⟩))
theorem Xc (ok0 : bz → Bool) (g0_0 : bz → fx) (x : rD) (Q : eu.Y → Prop) : wpf te tl (bK 0 (dZ kv 0 ok0 (o4 g0_0)) az) 1000 Try.f130 (eu.inp.inj x).tm (eu.inp.inj x).hp (fnK eu Al Q) (fun _ _ => False) = (Cs ok0 g0_0 (x.1.1) (x.1.2.1)).wpR Q := by kernel_rfl
theorem IQ (ok0 : bz → Bool) (g0_0 : bz → fx) (h0 : ∀ s : bz, ok0 s = true → ∃ m e, aB (kw) m s = some e ∧ (o4 g0_0 s).run = some e) (pre : rD → Bool) (F : rD → OT eu.Y) (hF : ∀ (x : rD) oy, pre x = true → (F x).run = some oy → (Cs ok0 g0_0 (x.1.1) (x.1.2.1)).run = some oy) : ab Try.prog 130 (eu.aE pre F) :=
  aC ao ni yQ (f := 130) (fn := Try.f130) (c := al Try.f130) (by kernel_rfl) (by kernel_rfl) (by kernel_rfl) (S := eu) (k := 0) (by kernel_rfl) (fun R hR => (aL (c := (al Try.f130)) (by kernel_rfl) (id := 0) (by kernel_rfl) (bJ ao ni yQ (sh := kv) hR (xs := EP) (aI (by kernel_rfl) (by kernel_rfl) hR) bk ae (n := 1000) (T := kw) (fun s Q => RI s Q) (ok := ok0) (f := o4 g0_0) h0) ae)) (n := 1000) (sel := Al) (fun v o h => by cases h; rfl) (pre := pre) (F := F) (T := fun x => Cs ok0 g0_0 (x.1.1) (x.1.2.1)) (fun x Q => Xc ok0 g0_0 x Q) hF
def afF (k : Nat) (s : List UInt64 × UInt64) : List UInt64 × UInt64 := (s.1.set k (bC (s.1.getD k 0) 1 ||| s.2), aP (s.1.getD k 0) 63)
def An (s : bz) : Bool := decide (s.1.2.2.2.1 = 0 ∧ s.2.1.length = 4)
def ES (s : bz) : fx := (((upto afF (s.2.1, s.1.1) 4).2, (), (), ()), ((upto afF (s.2.1, s.1.1) 4).1, s.2.2.1, ()))
theorem RK : ∀ s : bz, An s = true → ∃ m e, aB kw m s = some e ∧ (o4 ES s).run = some e := by
  rintro ⟨⟨b, ⟨⟩, ⟨⟩, i, ⟨⟩⟩, ⟨a, r, ⟨⟩⟩⟩ h
  have h' := of_decide_eq_true h
  dsimp only at h'
  obtain ⟨rfl, hl⟩ := h'
  have := (bt (T := kw) (fun k s => (((s.2, (), (), (k : Int), ()), (s.1, r, ())) : bz)) afF
    (fun s => (⟨(.exit 0, jK), ((s.2, (), (), ()), (s.1, r, ()))⟩ : aS)) 4 (a, b) (fun _ s => s.1.length = 4) hl (fun k s hk hs => ⟨?_, (List.length_set ..).trans hs⟩) (fun s hs => ?_)).1
  · obtain ⟨m, hm⟩ := this
    exact ⟨m, _, hm, rfl⟩
  · refine (OT.ax (decide_eq_true (by dsimp only; omega))).trans ((aj ?_).trans ?_)
    · simp only [Int.toNat_natCast, Nat.add_zero, hs, List.all_cons, List.all_nil, Bool.and_true, Bool.and_eq_true]
      exact ⟨aQ (by omega), decide_eq_true (by omega), aQ (by omega), decide_eq_true (by omega), aQ (by omega), decide_eq_true (by omega), aX (by omega)⟩
    · simp only [OT.dq, Int.toNat_natCast, Nat.add_zero]
      rfl
  · exact OT.ay (decide_eq_false (by dsimp only; omega))
def Am (_ : rD) : Bool := true
def L0 (x : rD) : OT eu.Y := .ok ⟨vN, (((bY x.1.1 x.1.2.1).1, ((bY x.1.1 x.1.2.1).2, ())), ())⟩
theorem RJ : ab Try.prog 130 (eu.aE Am L0) := IQ An ES RK _ _ fun x oy hp ho => by
  rw [← ho]
  clear ho
  obtain ⟨⟨a, b, ⟨⟩⟩, ⟨⟩⟩ := x
  refine (aj ?_).trans rfl
  simp only [List.all_cons, List.all_nil, Bool.and_true, Bool.and_eq_true]
  exact ⟨rfl, rfl, rfl, rfl⟩
def nP : bO := (eu.aE Am L0)
theorem ER : ab Try.prog 130 nP := RJ
theorem EQ : aD nP := aA
def nh : Env := av 130 nP tl
theorem kl : aN Try.prog nh := ah ER ni
theorem qH : ar nh := ac EQ uz
theorem uy : aY Try.prog te nh := aG follows ao kl qH
def kq : ak := ⟨[.val true .elem, .val true .elem, .val true .elem], [], true, 0, false⟩
abbrev Pd : Type := ((ag) × (ag) × (ag) × Unit) × (Unit)
def vQ : Shape := ⟨57, [(5, .ptr 0 0 0), (6, .ptr 1 0 0), (8, .ptr 2 0 0), (10, .ptr 3 0 0), (11, .val false .int), (21, .val true (.arr 2 .elem)), (22, .val false .int)], [(0, .row .u64), (1, .row .u64), (2, .row .u64), (3, .row .u64)], 0, true⟩
abbrev b7 : Type := ((Unit) × (Unit) × (Unit) × (Unit) × (Int) × (List (ag)) × (Int) × Unit) × ((List (UInt64)) × (List (UInt64)) × (List (UInt64)) × (List (UInt64)) × Unit)
def o5 : Shape := ⟨57, [(5, .ptr 0 0 0), (6, .ptr 1 0 0), (8, .ptr 2 0 0), (21, .val true (.arr 2 .elem)), (22, .val false .int)], [(0, .row .u64), (1, .row .u64), (2, .row .u64)], 0, true⟩
abbrev fW : Type := ((Unit) × (Unit) × (Unit) × (List (ag)) × (Int) × Unit) × ((List (UInt64)) × (List (UInt64)) × (List (UInt64)) × Unit)
def RM : SE → Option Shape := nt [(2, o5)] none
def IU (a11 : Int) (a21 : List (ag)) (a22 : Int) (c0 : List (UInt64)) (c1 : List (UInt64)) (c2 : List (UInt64)) (c3 : List (UInt64)) : OT (Sum b7 aS) :=
  let z0 : Nat := List.length c2
  let z1 : Int := Int.tdiv a11 (64 : Int)
  let z2 : Int := Int.tmod a11 (64 : Int)
  let z3 : ag × UInt64 := bY { w0 := List.getD c2 0 0, w1 := List.getD c2 1 0, w2 := List.getD c2 2 0, w3 := List.getD c2 3 0 } (aP (List.getD c3 (Int.toNat z1 + 0) (0 : UInt64)) z2 &&& (1 : UInt64))
  let z4 := z3.fst
  let z5 : List UInt64 := List.set (List.set (List.set (List.set c2 0 z4.w0) 1 z4.w1) 2 z4.w2) 3 z4.w3
  let z6 : Nat := List.length z5
  let z7 : Bool := decide ((4 / 1 : Nat) + 0 ≤ z6)
  let z8 : Bool := inR (a11 - (1 : Int))
  let z9 : ag := { w0 := 0, w1 := 0, w2 := 0, w3 := 0 }
  let z10 : ag × Bool := nu { w0 := List.getD z5 0 0, w1 := List.getD z5 1 0, w2 := List.getD z5 2 0, w3 := List.getD z5 3 0 } { w0 := List.getD c0 0 0, w1 := List.getD c0 1 0, w2 := List.getD c0 2 0, w3 := List.getD c0 3 0 }
  let z11 := z10.fst
  let z12 : List UInt64 := List.set (List.set (List.set (List.set z5 0 z11.w0) 1 z11.w1) 2 z11.w2) 3 z11.w3
  (.br (decide ((0 : Int) ≤ a11))
  (gd [decide (4 ≤ z0), true && inR z1, inB z1 4, decide (Int.toNat z1 + 0 < List.length c3), decide ((0 : Int) ≤ z2), decide ((4 / 1 : Nat) + 0 ≤ z0), decide (4 ≤ z6), decide (4 ≤ List.length c0)] (.br (!z3.snd == (0 : UInt64))
    (gd [z7, z8] (.ok (.inl (((), ((), ((), ((), (a11 - (1 : Int), ([List.getD a21 0 z9, List.getD a21 1 z9], (a22, ()))))))), (c0, (c1, (z12, (c3, ()))))))))
    (.br (!z10.snd)
      (gd [z7, z8] (.ok (.inl (((), ((), ((), ((), (a11 - (1 : Int), ([List.getD a21 0 z9, List.getD a21 1 z9], (a22, ()))))))), (c0, (c1, (z12, (c3, ()))))))))
      (gd [z8] (.ok (.inl (((), ((), ((), ((), (a11 - (1 : Int), ([List.getD a21 0 z9, List.getD a21 1 z9], (a22, ()))))))), (c0, (c1, (z5, (c3, ())))))))))))
  (.ok (.inr ⟨(.exit 2, o5), (((), ((), ((), ([List.getD a21 0 z9, List.getD a21 1 z9], (a22, ()))))), (c0, (c1, (c2, ()))))⟩)))
def vR (s : b7) : OT (Sum b7 aS) := IU (s.1.2.2.2.2.1) (s.1.2.2.2.2.2.1) (s.1.2.2.2.2.2.2.1) (s.2.1) (s.2.2.1) (s.2.2.2.1) (s.2.2.2.2.1)
theorem aa6 (s : b7) (Q : Sum b7 aS → Prop) : wps te nh az 1000 (bM (al Try.f125) 2) (vQ.inj s) (dm vQ RM (Q : Sum vQ.T aS → Prop)) = (vR s).wpR Q := by kernel_rfl
def Cu (g2_2 : b7 → fW) (s : b7) : OT aS := (.ok ⟨(.exit 2, o5), (((g2_2 s).1.1, ((g2_2 s).1.2.1, ((g2_2 s).1.2.2.1, (s.1.2.2.2.2.2.1, (s.1.2.2.2.2.2.2.1, ()))))), (g2_2 s).2)⟩)
def rE : aq := ⟨[.val true .elem, .val false .int], [], false⟩
def L3 : SV → Option aq := fun _ => some rE
def Ao (ok2 : b7 → Bool) (g2_2 : b7 → fW) (a0 : ag) (a1 : ag) (a2 : ag) : OT kq.Y :=
  let z0 : (PUnit × PUnit × PUnit × PUnit × Int × List ag × Int × PUnit) × List UInt64 × List UInt64 × List UInt64 × List UInt64 × PUnit := (((), (), (), (), (255 : Int), [a1, a0], (0 : Int), ()), [a2.w0, a2.w1, a2.w2, a2.w3], [(0 : UInt64), (0 : UInt64), (0 : UInt64), (0 : UInt64)], [(0 : UInt64), (0 : UInt64), (0 : UInt64), (0 : UInt64)], [a1.w0, a1.w1, a1.w2, a1.w3], ())
  let z1 := (g2_2 z0).snd
  let z2 := z1.snd
  let z3 : (PUnit × PUnit × PUnit × PUnit × Int × List ag × Int × PUnit) × List UInt64 × List UInt64 × List UInt64 × List UInt64 × PUnit := (((), (), (), (), (255 : Int), [a1, a0], (0 : Int) + (1 : Int), ()), z1.fst, z2.fst, z2.snd.fst, [a0.w0, a0.w1, a0.w2, a0.w3], ())
  let z4 := (g2_2 z3).snd.snd
  let z5 := z4.snd.fst
  let z6 := z4.fst
  let z7 : List UInt64 := lay z6 z5 4 (0 : UInt64)
  (.br (a2.w0 == (0 : UInt64) && (a2.w1 == (0 : UInt64) && (a2.w2 == (0 : UInt64) && (a2.w3 == (0 : UInt64) && true))))
  (.ok ⟨rE, (({ w0 := 0, w1 := 0, w2 := 0, w3 := 0 }, ((10 : Int), ())), ())⟩)
  (gd [ok2 z0, ok2 z3, decide (4 ≤ List.length z5), decide ((4 / 1 : Nat) + 0 ≤ List.length z6), decide (4 ≤ List.length z7)] (.ok ⟨rE, (({ w0 := List.getD z7 0 0, w1 := List.getD z7 1 0, w2 := List.getD z7 2 0, w3 := List.getD z7 3 0 }, ((0 : Int), ())), ())⟩)))
theorem aeo (ok2 : b7 → Bool) (g2_2 : b7 → fW) (x : Pd) (Q : kq.Y → Prop) : wpf te nh (bK 2 (dZ vQ 2 ok2 (Cu g2_2)) az) 1000 Try.f125 (kq.inp.inj x).tm (kq.inp.inj x).hp (fnK kq L3 Q) (fun _ _ => False) = (Ao ok2 g2_2 (x.1.1) (x.1.2.1) (x.1.2.2.1)).wpR Q := by kernel_rfl
theorem RN (ok2 : b7 → Bool) (g2_2 : b7 → fW) (h2 : ∀ s : b7, ok2 s = true → ∃ m e, aB (vR) m s = some e ∧ (Cu g2_2 s).run = some e) (pre : Pd → Bool) (F : Pd → OT kq.Y) (hF : ∀ (x : Pd) oy, pre x = true → (F x).run = some oy → (Ao ok2 g2_2 (x.1.1) (x.1.2.1) (x.1.2.2.1)).run = some oy) : ab Try.prog 125 (kq.aE pre F) :=
  aC ao kl uy (f := 125) (fn := Try.f125) (c := al Try.f125) (by kernel_rfl) (by kernel_rfl) (by kernel_rfl) (S := kq) (k := 0) (by kernel_rfl) (fun R hR => (aL (c := (al Try.f125)) (by kernel_rfl) (id := 2) (by kernel_rfl) (bJ ao kl uy (sh := vQ) hR (xs := RM) (aI (by kernel_rfl) (by kernel_rfl) hR) bk ae (n := 1000) (T := vR) (fun s Q => aa6 s Q) (ok := ok2) (f := Cu g2_2) h2) ae)) (n := 1000) (sel := L3) (fun v o h => by cases h; rfl) (pre := pre) (F := F) (T := fun x => Ao ok2 g2_2 (x.1.1) (x.1.2.1) (x.1.2.2.1)) (fun x Q => aeo ok2 g2_2 x Q) hF
def Ct (s : b7) : Bool := decide (s.1.2.2.2.2.1 = 255 ∧ s.1.2.2.2.2.2.1.length = 2 ∧ s.2.1.length = 4 ∧ s.2.2.2.1.length = 4 ∧ s.2.2.2.2.1.length = 4)
def IR (s : b7) : fW := (((), (), (), s.1.2.2.2.2.2.1, s.1.2.2.2.2.2.2.1, ()), (s.2.1, s.2.2.1, lst (W9 (elemOf s.2.1) (elemOf s.2.2.2.2.1) (elemOf s.2.2.2.1) 256), ()))
theorem afH (i : Nat) : Int.tdiv (i : Int) 64 = ((i / 64 : Nat) : Int) := by rw [Int.tdiv_eq_ediv_of_nonneg (by omega)]; omega
theorem afI (i : Nat) : Int.tmod (i : Int) 64 = ((i % 64 : Nat) : Int) := by rw [Int.tmod_eq_emod_of_nonneg (by omega)]; omega
theorem aa8 : ∀ s : b7, Ct s = true → ∃ m e, aB vR m s = some e ∧ (Cu IR s).run = some e := by
  rintro ⟨⟨⟨⟩, ⟨⟩, ⟨⟩, ⟨⟩, i, arr, j, ⟨⟩⟩, ⟨c0, c1, c2, c3, ⟨⟩⟩⟩ h
  have h' := of_decide_eq_true h
  dsimp only at h'
  obtain ⟨rfl, ha, h0, h2, h3⟩ := h'
  obtain ⟨x, y, rfl⟩ : ∃ x y, arr = [x, y] := by
    match arr, ha with
    | [x, y], _ => exact ⟨x, y, rfl⟩
  obtain ⟨m, rfl⟩ : ∃ a, c0 = lst a := ⟨elemOf c0, (b8 h0).symm⟩
  obtain ⟨r, rfl⟩ : ∃ a, c2 = lst a := ⟨elemOf c2, (b8 h2).symm⟩
  obtain ⟨t, rfl⟩ : ∃ a, c3 = lst a := ⟨elemOf c3, (b8 h3).symm⟩
  have := (bt (T := vR) (fun k r => ((((), (), (), (), (255 : Int) - (k : Int), [x, y], j, ()), (lst m, c1, lst r, lst t, ())) : b7)) (fun k r => TR m r (Aa t (255 - k)))
    (fun r => (⟨(.exit 2, o5), (((), (), (), [x, y], j, ()), (lst m, c1, lst r, ()))⟩ : aS)) 256 r (fun _ _ => True) trivial (fun k r hk _ => ⟨?_, trivial⟩) (fun r _ => ?_)).1
  · obtain ⟨n, hn⟩ := this
    exact ⟨n, _, hn, rfl⟩
  · have e0 : (255 : Int) - (k : Int) = ((255 - k : Nat) : Int) := by omega
    have e1 : (255 : Int) - ((k + 1 : Nat) : Int) = ((255 - k : Nat) : Int) - 1 := by omega
    have hb : aP ((lst t).getD ((255 - k) / 64) 0) (((255 - k) % 64 : Nat) : Int) &&& 1 = Aa t (255 - k) := rfl
    rw [e1, e0]
    show (IU ((255 - k : Nat) : Int) [x, y] j (lst m) c1 (lst r) (lst t)).run = some (.inl (((), (), (), (), ((255 - k : Nat) : Int) - 1, [x, y], j, ()), (lst m, c1, lst (TR m r (Aa t (255 - k))), lst t, ())))
    unfold IU
    simp only [afH, afI, Int.toNat_natCast, Nat.add_zero, hb]
    refine (OT.ax (decide_eq_true (by omega))).trans ((aj ?_).trans ?_)
    · simp only [List.all_cons, List.all_nil, Bool.and_true, Bool.true_and, Bool.and_eq_true]
      have hl : ∀ a : ag, (lst a).length = 4 := fun _ => rfl
      exact ⟨rfl, aX (by omega), aQ (by omega), decide_eq_true (by rw [hl]; omega), decide_eq_true (by omega), rfl, rfl, rfl⟩
    · have hr : inR (((255 - k : Nat) : Int) - 1) = true := aX (by omega)
      rcases (Bool.eq_false_or_eq_true ((bY r (Aa t (255 - k))).2 == 0)).symm with g | g
      · have e : TR m r (Aa t (255 - k)) = (nu (bY r (Aa t (255 - k))).1 m).1 := by unfold TR; rw [g]; rfl
        rw [e]
        exact (OT.ax (b := !((bY r (Aa t (255 - k))).2 == 0)) (by rw [g]; rfl)).trans ((aj (by rw [hr]; rfl)).trans rfl)
      · refine (OT.ay (b := !((bY r (Aa t (255 - k))).2 == 0)) (by rw [g]; rfl)).trans ?_
        rcases (Bool.eq_false_or_eq_true (nu (bY r (Aa t (255 - k))).1 m).2).symm with u | u
        · have e : TR m r (Aa t (255 - k)) = (nu (bY r (Aa t (255 - k))).1 m).1 := by unfold TR; rw [g, u]; rfl
          rw [e]
          exact (OT.ax (b := !(nu (bY r (Aa t (255 - k))).1 m).2) (by rw [u]; rfl)).trans ((aj (by rw [hr]; rfl)).trans rfl)
        · have e : TR m r (Aa t (255 - k)) = (bY r (Aa t (255 - k))).1 := by unfold TR; rw [g, u]; rfl
          rw [e]
          exact (OT.ay (b := !(nu (bY r (Aa t (255 - k))).1 m).2) (by rw [u]; rfl)).trans ((aj (by rw [hr]; rfl)).trans rfl)
  · exact OT.ay (decide_eq_false (by dsimp only; omega))
def L4 (_ : Pd) : Bool := true
def ue (m : ag) : Bool := m.w0 == 0 && (m.w1 == 0 && (m.w2 == 0 && (m.w3 == 0 && true)))
def aap (x : Pd) : OT kq.Y := .br (ue x.1.2.2.1) (.ok ⟨rE, ((⟨0, 0, 0, 0⟩, ((10 : Int), ())), ())⟩) (.ok ⟨rE, ((aeb x.1.1 x.1.2.1 x.1.2.2.1, ((0 : Int), ())), ())⟩)
theorem P1 {m : ag} (h : ue m = false) : 0 < m.nat := by
  refine Nat.pos_of_ne_zero fun e => ?_
  have e2 : m = ⟨0, 0, 0, 0⟩ := ob e
  rw [e2] at h
  cases h
theorem RO {ok2 : b7 → Bool} {g2 : b7 → fW} {a b m H R : ag} (h : ue m = false)
    (h1 : ok2 (((), (), (), (), 255, [b, a], 0, ()), (lst m, lst ⟨0, 0, 0, 0⟩, lst ⟨0, 0, 0, 0⟩, lst b, ())) = true)
    (e1 : (g2 (((), (), (), (), 255, [b, a], 0, ()), (lst m, lst ⟨0, 0, 0, 0⟩, lst ⟨0, 0, 0, 0⟩, lst b, ()))).2 = (lst m, lst ⟨0, 0, 0, 0⟩, lst H, ()))
    (h2 : ok2 (((), (), (), (), 255, [b, a], 0 + 1, ()), (lst m, lst ⟨0, 0, 0, 0⟩, lst H, lst a, ())) = true)
    (e2 : (g2 (((), (), (), (), 255, [b, a], 0 + 1, ()), (lst m, lst ⟨0, 0, 0, 0⟩, lst H, lst a, ()))).2 = (lst m, lst ⟨0, 0, 0, 0⟩, lst R, ())) :
    (Ao ok2 g2 a b m).run = some ⟨rE, ((R, ((0 : Int), ())), ())⟩ := by
  have l : ∀ e : ag, lst e = [e.w0, e.w1, e.w2, e.w3] := fun _ => rfl
  rw [l m, l ⟨0, 0, 0, 0⟩] at h1 e1 h2 e2
  rw [l b] at h1 e1
  rw [l a] at h2 e2
  unfold Ao
  simp only [e1, h1, e2, h2]
  exact (OT.ay h).trans ((aj rfl).trans rfl)
theorem aa7 : ab Try.prog 125 (kq.aE L4 aap) := RN Ct IR aa8 _ _ fun x oy hp ho => by
  rw [← ho]
  clear ho
  obtain ⟨⟨a, b, m, ⟨⟩⟩, ⟨⟩⟩ := x
  show (Ao Ct IR a b m).run = (OT.br (ue m) _ _ : OT kq.Y).run
  rcases (Bool.eq_false_or_eq_true (ue m)).symm with h | h
  · refine Eq.trans (RO (H := W9 m b ⟨0, 0, 0, 0⟩ 256) (R := W9 m a (W9 m b ⟨0, 0, 0, 0⟩ 256) 256) h rfl rfl rfl rfl) ?_
    rw [YR (P1 h)]
    rw [h]
    rfl
  · exact (OT.ax h).trans (OT.ax (b := ue m) h).symm
def vP : bO := (kq.aE L4 aap)
theorem Pc : ab Try.prog 125 vP := aa7
theorem Pb : aD vP := aA
def Ig : Env := av 125 vP nh
theorem yO : aN Try.prog Ig := ah Pc kl
theorem yP : ar Ig := ac Pb qH
theorem Rs : aY Try.prog te Ig := aG follows ao yO yP
def xH : ak := ⟨[.val false .int], [], true, 0, false⟩
abbrev aeg : Type := ((Int) × Unit) × (Unit)
def uk : aq := ⟨[.val true (.prod .elem (.prod .int (.prod .u64 (.prod .u64 .elem)))), .val false .int], [], false⟩
def Vu : SV → Option aq := fun _ => some uk
def ady (a0 : Int) : OT xH.Y :=
  let z0 : ag := { w0 := 0, w1 := 0, w2 := 0, w3 := 0 }
  let z1 : UInt64 × ag := ((0 : UInt64), z0)
  (.br (a0 == (0 : Int))
  (.ok ⟨uk, ((({ w0 := 16513537, w1 := 0, w2 := 0, w3 := 0 }, (9 : Int), (16513537 : UInt64), z1), ((0 : Int), ())), ())⟩)
  (.br (a0 == (1 : Int))
    (.ok ⟨uk, ((({ w0 := 16521217, w1 := 0, w2 := 0, w3 := 0 }, (11 : Int), (16521217 : UInt64), z1), ((0 : Int), ())), ())⟩)
    (.br (a0 == (2 : Int))
      (.ok ⟨uk, ((({ w0 := 11037532056220336129, w1 := 2469829653914515739, w2 := 0, w3 := 4611686018427387904 }, (32 : Int), (0 : UInt64), (11037532056220336127 : UInt64), { w0 := 10122100416058490895, w1 := 15551789045973377255, w2 := 8617542898466512152, w3 := 679271340751763220 }), ((0 : Int), ())), ())⟩)
      (.br (a0 == (3 : Int))
        (.ok ⟨uk, ((({ w0 := 10108024940646105089, w1 := 2469829653919213789, w2 := 0, w3 := 4611686018427387904 }, (32 : Int), (0 : UInt64), (10108024940646105087 : UInt64), { w0 := 18200867980676431887, w1 := 7474641938123724515, w2 := 9200329640471491984, w3 := 679271340771891881 }), ((0 : Int), ())), ())⟩)
        (.ok ⟨uk, (((z0, (0 : Int), (0 : UInt64), z1), ((20 : Int), ())), ())⟩)))))
theorem afR (x : aeg) (Q : xH.Y → Prop) : wpf te Ig az 1000 Try.f57 (xH.inp.inj x).tm (xH.inp.inj x).hp (fnK xH Vu Q) (fun _ _ => False) = (ady (x.1.1)).wpR Q := by kernel_rfl
theorem Zz (pre : aeg → Bool) (F : aeg → OT xH.Y) (hF : ∀ (x : aeg) oy, pre x = true → (F x).run = some oy → (ady (x.1.1)).run = some oy) : ab Try.prog 57 (xH.aE pre F) :=
  aC ao yO Rs (f := 57) (fn := Try.f57) (c := al Try.f57) (by kernel_rfl) (by kernel_rfl) (by kernel_rfl) (S := xH) (k := 0) (by kernel_rfl) (fun R hR => ae) (n := 1000) (sel := Vu) (fun v o h => by cases h; rfl) (pre := pre) (F := F) (T := fun x => ady (x.1.1)) (fun x Q => afR x Q) hF
abbrev Ic : Type := ag × Int × UInt64 × UInt64 × ag
def aeV : Ic := (⟨0, 0, 0, 0⟩, 0, 0, 0, ⟨0, 0, 0, 0⟩)
def cI : Nat → Ic
  | 0 => (⟨16513537, 0, 0, 0⟩, 9, 16513537, 0, ⟨0, 0, 0, 0⟩)
  | 1 => (⟨16521217, 0, 0, 0⟩, 11, 16521217, 0, ⟨0, 0, 0, 0⟩)
  | 2 => (⟨11037532056220336129, 2469829653914515739, 0, 4611686018427387904⟩, 32, 0, 11037532056220336127, ⟨10122100416058490895, 15551789045973377255, 8617542898466512152, 679271340751763220⟩)
  | 3 => (⟨10108024940646105089, 2469829653919213789, 0, 4611686018427387904⟩, 32, 0, 10108024940646105087, ⟨18200867980676431887, 7474641938123724515, 9200329640471491984, 679271340771891881⟩)
  | _ => aeV
def aw (s : Int) : Bool := decide (0 ≤ s) && decide (s < 4)
theorem b6 {s : Int} (h : aw s = true) : s = 0 ∨ s = 1 ∨ s = 2 ∨ s = 3 := by
  simp only [aw, Bool.and_eq_true, decide_eq_true_eq] at h
  omega
theorem mg {s : Int} (h : aw s = false) : (s == 0) = false ∧ (s == 1) = false ∧ (s == 2) = false ∧ (s == 3) = false := by
  have hn : ∀ k : Int, 0 ≤ k → k < 4 → (s == k) = false := fun k h0 h1 => by
    cases hb : s == k
    · rfl
    · have : s = k := by simpa using hb
      subst this
      simp only [aw, decide_eq_true h0, decide_eq_true h1, Bool.and_self] at h
      cases h
  exact ⟨hn 0 (by decide) (by decide), hn 1 (by decide) (by decide), hn 2 (by decide) (by decide), hn 3 (by decide) (by decide)⟩
def Vv (_ : aeg) : Bool := true
def ae9 (x : aeg) : OT xH.Y := .br (aw x.1.1) (.ok ⟨uk, ((cI x.1.1.toNat, ((0 : Int), ())), ())⟩) (.ok ⟨uk, ((aeV, ((20 : Int), ())), ())⟩)
theorem ae8 : ab Try.prog 57 (xH.aE Vv ae9) := Zz _ _ fun x oy _ ho => by
  rw [← ho]
  clear ho
  obtain ⟨⟨s, ⟨⟩⟩, ⟨⟩⟩ := x
  cases hs : aw s
  · obtain ⟨h0, h1, h2, h3⟩ := mg hs
    exact (OT.ay h0).trans ((OT.ay h1).trans ((OT.ay h2).trans ((OT.ay h3).trans (OT.ay (b := aw s) hs).symm)))
  · rcases b6 hs with h | h | h | h
    all_goals
      have h : s = _ := h
      subst h
      rfl
def DF : bO := (xH.aE Vv ae9)
theorem Vw : ab Try.prog 57 DF := ae8
theorem Vt : aD DF := aA
def W3 : Env := av 57 DF Ig
theorem EG : aN Try.prog W3 := ah Vw yO
theorem Cf : ar W3 := ac Vt yP
theorem W2 : aY Try.prog te W3 := aG follows ao EG Cf
def lk : ak := ⟨[.val false .int], [], true, 0, false⟩
abbrev QE : Type := ((Int) × Unit) × (Unit)
def xP : aq := ⟨[.val true .elem, .val false .int], [], false⟩
def Ol : SV → Option aq := fun _ => some xP
def VD (a0 : Int) : OT lk.Y :=
  (.br (aw a0)
  (.ok ⟨xP, (((cI (Int.toNat a0)).fst, ((0 : Int), ())), ())⟩)
  (.ok ⟨xP, (({ w0 := 0, w1 := 0, w2 := 0, w3 := 0 }, ((20 : Int), ())), ())⟩))
theorem afb (x : QE) (Q : lk.Y → Prop) : wpf te W3 az 1000 Try.f61 (lk.inp.inj x).tm (lk.inp.inj x).hp (fnK lk Ol Q) (fun _ _ => False) = (VD (x.1.1)).wpR Q := by kernel_rfl
theorem VC (pre : QE → Bool) (F : QE → OT lk.Y) (hF : ∀ (x : QE) oy, pre x = true → (F x).run = some oy → (VD (x.1.1)).run = some oy) : ab Try.prog 61 (lk.aE pre F) :=
  aC ao EG W2 (f := 61) (fn := Try.f61) (c := al Try.f61) (by kernel_rfl) (by kernel_rfl) (by kernel_rfl) (S := lk) (k := 0) (by kernel_rfl) (fun R hR => ae) (n := 1000) (sel := Ol) (fun v o h => by cases h; rfl) (pre := pre) (F := F) (T := fun x => VD (x.1.1)) (fun x Q => afb x Q) hF
def Om (_ : QE) : Bool := true
def aaU (x : QE) : OT lk.Y := .br (aw x.1.1) (.ok ⟨xP, (((cI x.1.1.toNat).1, ((0 : Int), ())), ())⟩) (.ok ⟨xP, ((⟨0, 0, 0, 0⟩, ((20 : Int), ())), ())⟩)
theorem adB : ab Try.prog 61 (lk.aE Om aaU) := VC _ _ fun x oy _ ho => ho
def xO : bO := (lk.aE Om aaU)
theorem QD : ab Try.prog 61 xO := adB
theorem QC : aD xO := aA
def zt : Env := av 61 xO W3
theorem lT : aN Try.prog zt := ah QD EG
theorem zr : ar zt := ac QC Cf
theorem tJ : aY Try.prog te zt := aG follows ao lT zr
def jr : ak := ⟨[.val true (.prod .elem (.prod .int (.prod .u64 (.prod .u64 .elem)))), .val true .elem], [], true, 0, false⟩
abbrev Qt : Type := (((ag × (Int × (UInt64 × (UInt64 × ag))))) × (ag) × Unit) × (Unit)
def xB : Shape := ⟨53, [(2, .ptr 0 0 0), (3, .ptr 1 0 0), (4, .ptr 2 0 0), (5, .val false .u64), (6, .val false .int)], [(0, .cells [.val false .u64, .val false .u64, .val false .u64, .val false .u64, .val false .int, .val false .u64, .val false .u64, .val false .u64, .val false .u64, .val false .u64, .val false .u64]), (1, .row .u64), (2, .row .u64)], 0, true⟩
abbrev cu : Type := ((Unit) × (Unit) × (Unit) × (UInt64) × (Int) × Unit) × (((UInt64) × (UInt64) × (UInt64) × (UInt64) × (Int) × (UInt64) × (UInt64) × (UInt64) × (UInt64) × (UInt64) × (UInt64) × Unit) × (List (UInt64)) × (List (UInt64)) × Unit)
def qa : Shape := ⟨53, [(4, .ptr 0 0 0), (5, .val false .u64)], [(0, .row .u64)], 0, true⟩
abbrev jq : Type := ((Unit) × (UInt64) × Unit) × ((List (UInt64)) × Unit)
def Vr : SE → Option Shape := nt [(0, qa)] none
def adw (a5 : UInt64) (a6 : Int) (c0_0 : UInt64) (c0_1 : UInt64) (c0_2 : UInt64) (c0_3 : UInt64) (c0_4 : Int) (c0_5 : UInt64) (c0_6 : UInt64) (c0_7 : UInt64) (c0_8 : UInt64) (c0_9 : UInt64) (c0_10 : UInt64) (c1 : List (UInt64)) (c2 : List (UInt64)) : OT (Sum cu aS) :=
  let z0 : UInt64 := List.getD c1 (Int.toNat a6 + 0) (0 : UInt64)
  (.br (decide ((0 : Int) ≤ a6))
  (gd [inB a6 4, decide (Int.toNat a6 + 0 < List.length c1), mS ((a5, z0, c0_5, ()), ()), inR (a6 - (1 : Int))] (.ok (.inl (((), ((), ((), (Hh a5 z0 c0_5, (a6 - (1 : Int), ()))))), ((c0_0, (c0_1, (c0_2, (c0_3, (c0_4, (c0_5, (c0_6, (c0_7, (c0_8, (c0_9, (c0_10, ()))))))))))), (c1, (c2, ())))))))
  (.ok (.inr ⟨(.exit 0, qa), (((), (a5, ())), (c2, ()))⟩)))
def xE (s : cu) : OT (Sum cu aS) := adw (s.1.2.2.2.1) (s.1.2.2.2.2.1) (s.2.1.1) (s.2.1.2.1) (s.2.1.2.2.1) (s.2.1.2.2.2.1) (s.2.1.2.2.2.2.1) (s.2.1.2.2.2.2.2.1) (s.2.1.2.2.2.2.2.2.1) (s.2.1.2.2.2.2.2.2.2.1) (s.2.1.2.2.2.2.2.2.2.2.1) (s.2.1.2.2.2.2.2.2.2.2.2.1) (s.2.1.2.2.2.2.2.2.2.2.2.2.1) (s.2.2.1) (s.2.2.2.1)
theorem adr (s : cu) (Q : Sum cu aS → Prop) : wps te zt az 1000 (bM (al Try.f58) 0) (xB.inj s) (dm xB Vr (Q : Sum xB.T aS → Prop)) = (xE s).wpR Q := by kernel_rfl
def DE (g0_0 : cu → jq) (s : cu) : OT aS := (.ok ⟨(.exit 0, qa), g0_0 s⟩)
def xA : Shape := ⟨53, [(2, .ptr 0 0 0), (3, .ptr 1 0 0), (4, .ptr 2 0 0)], [(0, .cells [.val false .u64, .val false .u64, .val false .u64, .val false .u64, .val false .int, .val false .u64, .val false .u64, .val false .u64, .val false .u64, .val false .u64, .val false .u64]), (1, .row .u64), (2, .row .u64)], 0, true⟩
abbrev ct : Type := ((Unit) × (Unit) × (Unit) × Unit) × (((UInt64) × (UInt64) × (UInt64) × (UInt64) × (Int) × (UInt64) × (UInt64) × (UInt64) × (UInt64) × (UInt64) × (UInt64) × Unit) × (List (UInt64)) × (List (UInt64)) × Unit)
def lg : Shape := ⟨53, [(4, .ptr 0 0 0)], [(0, .row .u64)], 0, true⟩
abbrev jp : Type := ((Unit) × Unit) × ((List (UInt64)) × Unit)
def Vq : SE → Option Shape := nt [] (some lg)
def adv (c0_0 : UInt64) (c0_1 : UInt64) (c0_2 : UInt64) (c0_3 : UInt64) (c0_4 : Int) (c0_5 : UInt64) (c0_6 : UInt64) (c0_7 : UInt64) (c0_8 : UInt64) (c0_9 : UInt64) (c0_10 : UInt64) (c1 : List (UInt64)) (c2 : List (UInt64)) : OT (Sum ct aS) :=
  let z0 : Nat := List.length c1
  let z1 : Bool := decide (4 ≤ z0)
  let z2 : ag × Bool := nu { w0 := List.getD c1 0 0, w1 := List.getD c1 1 0, w2 := List.getD c1 2 0, w3 := List.getD c1 3 0 } { w0 := c0_0, w1 := c0_1, w2 := c0_2, w3 := c0_3 }
  let z3 := z2.fst
  (gd [z1] (.br (z2.snd)
  (gd [z1, decide ((4 / 1 : Nat) + 0 ≤ List.length c2)] (.ok (.inr ⟨(.ret, lg), (((), ()), (lay c2 c1 4 (0 : UInt64), ()))⟩)))
  (gd [decide ((4 / 1 : Nat) + 0 ≤ z0)] (.ok (.inl (((), ((), ((), ()))), ((c0_0, (c0_1, (c0_2, (c0_3, (c0_4, (c0_5, (c0_6, (c0_7, (c0_8, (c0_9, (c0_10, ()))))))))))), (List.set (List.set (List.set (List.set c1 0 z3.w0) 1 z3.w1) 2 z3.w2) 3 z3.w3, (c2, ())))))))))
def xD (s : ct) : OT (Sum ct aS) := adv (s.2.1.1) (s.2.1.2.1) (s.2.1.2.2.1) (s.2.1.2.2.2.1) (s.2.1.2.2.2.2.1) (s.2.1.2.2.2.2.2.1) (s.2.1.2.2.2.2.2.2.1) (s.2.1.2.2.2.2.2.2.2.1) (s.2.1.2.2.2.2.2.2.2.2.1) (s.2.1.2.2.2.2.2.2.2.2.2.1) (s.2.1.2.2.2.2.2.2.2.2.2.2.1) (s.2.2.1) (s.2.2.2.1)
theorem adq (s : ct) (Q : Sum ct aS → Prop) : wps te zt az 1000 (bM (al Try.f58) 2) (xA.inj s) (dm xA Vq (Q : Sum xA.T aS → Prop)) = (xD s).wpR Q := by kernel_rfl
def DD (g2_r : ct → jp) (s : ct) : OT aS := (.ok ⟨(.ret, lg), g2_r s⟩)
def j4 : aq := ⟨[.val true .elem], [], false⟩
def Og : SV → Option aq := fun _ => some j4
def xF (ok0 : cu → Bool) (g0_0 : cu → jq) (ok2 : ct → Bool) (g2_r : ct → jp) (a0 : (ag × (Int × (UInt64 × (UInt64 × ag))))) (a1 : ag) : OT jr.Y :=
  let z0 : Bool := !a0.snd.snd.fst == (0 : UInt64)
  let z1 : (UInt64 × UInt64 × UInt64 × UInt64 × Int × UInt64 × UInt64 × UInt64 × UInt64 × UInt64 × UInt64 × PUnit) × List UInt64 × List UInt64 × PUnit := ((a0.fst.w0, a0.fst.w1, a0.fst.w2, a0.fst.w3, a0.snd.fst, a0.snd.snd.fst, a0.snd.snd.snd.fst, a0.snd.snd.snd.snd.w0, a0.snd.snd.snd.snd.w1, a0.snd.snd.snd.snd.w2, a0.snd.snd.snd.snd.w3, ()), [a1.w0, a1.w1, a1.w2, a1.w3], [(0 : UInt64), (0 : UInt64), (0 : UInt64), (0 : UInt64)], ())
  let z2 : (PUnit × PUnit × PUnit × UInt64 × Int × PUnit) × (UInt64 × UInt64 × UInt64 × UInt64 × Int × UInt64 × UInt64 × UInt64 × UInt64 × UInt64 × UInt64 × PUnit) × List UInt64 × List UInt64 × PUnit := (((), (), (), (0 : UInt64), (3 : Int), ()), z1)
  let z3 : (PUnit × UInt64 × PUnit) × List UInt64 × PUnit := g0_0 z2
  let z4 := z3.snd.fst
  let z5 : List UInt64 := List.set (List.set (List.set (List.set z4 0 z3.fst.snd.fst) 1 (0 : UInt64)) 2 (0 : UInt64)) 3 (0 : UInt64)
  let z6 : (PUnit × PUnit × PUnit × PUnit) × (UInt64 × UInt64 × UInt64 × UInt64 × Int × UInt64 × UInt64 × UInt64 × UInt64 × UInt64 × UInt64 × PUnit) × List UInt64 × List UInt64 × PUnit := (((), (), (), ()), z1)
  let z7 := (g2_r z6).snd.fst
  (.br (z0)
  (.br (a1.w1 ||| a1.w2 ||| a1.w3 == (0 : UInt64))
    (gd [z0] (.ok ⟨j4, (({ w0 := a1.w0 % a0.snd.snd.fst, w1 := 0, w2 := 0, w3 := 0 }, ()), ())⟩))
    (gd [ok0 z2, decide ((4 / 1 : Nat) + 0 ≤ List.length z4), decide (4 ≤ List.length z5)] (.ok ⟨j4, (({ w0 := List.getD z5 0 0, w1 := List.getD z5 1 0, w2 := List.getD z5 2 0, w3 := List.getD z5 3 0 }, ()), ())⟩)))
  (gd [ok2 z6, decide (4 ≤ List.length z7)] (.ok ⟨j4, (({ w0 := List.getD z7 0 0, w1 := List.getD z7 1 0, w2 := List.getD z7 2 0, w3 := List.getD z7 3 0 }, ()), ())⟩)))
theorem ae7 (ok0 : cu → Bool) (g0_0 : cu → jq) (ok2 : ct → Bool) (g2_r : ct → jp) (x : Qt) (Q : jr.Y → Prop) : wpf te zt (bK 2 (dZ xA 2 ok2 (DD g2_r)) (bK 0 (dZ xB 0 ok0 (DE g0_0)) az)) 1000 Try.f58 (jr.inp.inj x).tm (jr.inp.inj x).hp (fnK jr Og Q) (fun _ _ => False) = (xF ok0 g0_0 ok2 g2_r (x.1.1) (x.1.2.1)).wpR Q := by kernel_rfl
theorem Vs (ok0 : cu → Bool) (g0_0 : cu → jq) (ok2 : ct → Bool) (g2_r : ct → jp) (h0 : ∀ s : cu, ok0 s = true → ∃ m e, aB (xE) m s = some e ∧ (DE g0_0 s).run = some e) (h2 : ∀ s : ct, ok2 s = true → ∃ m e, aB (xD) m s = some e ∧ (DD g2_r s).run = some e) (pre : Qt → Bool) (F : Qt → OT jr.Y) (hF : ∀ (x : Qt) oy, pre x = true → (F x).run = some oy → (xF ok0 g0_0 ok2 g2_r (x.1.1) (x.1.2.1)).run = some oy) : ab Try.prog 58 (jr.aE pre F) :=
  aC ao lT tJ (f := 58) (fn := Try.f58) (c := al Try.f58) (by kernel_rfl) (by kernel_rfl) (by kernel_rfl) (S := jr) (k := 0) (by kernel_rfl) (fun R hR => (aL (c := (al Try.f58)) (by kernel_rfl) (id := 2) (by kernel_rfl) (bJ ao lT tJ (sh := xA) hR (xs := Vq) (aI (by kernel_rfl) (by kernel_rfl) hR) bk ae (n := 1000) (T := xD) (fun s Q => adq s Q) (ok := ok2) (f := DD g2_r) h2) (aL (c := (al Try.f58)) (by kernel_rfl) (id := 0) (by kernel_rfl) (bJ ao lT tJ (sh := xB) hR (xs := Vr) (aI (by kernel_rfl) (by kernel_rfl) hR) bk ae (n := 1000) (T := xE) (fun s Q => adr s Q) (ok := ok0) (f := DE g0_0) h0) ae))) (n := 1000) (sel := Og) (fun v o h => by cases h; rfl) (pre := pre) (F := F) (T := fun x => xF ok0 g0_0 ok2 g2_r (x.1.1) (x.1.2.1)) (fun x Q => ae7 ok0 g0_0 ok2 g2_r x Q) hF
def u7 (n : Ic) : Bool := decide (n = cI 0) || (decide (n = cI 1) || (decide (n = cI 2) || decide (n = cI 3)))
theorem oa {n : Ic} (h : u7 n = true) : n = cI 0 ∨ n = cI 1 ∨ n = cI 2 ∨ n = cI 3 := by
  simpa [u7] using h
theorem vq {s : Int} (h : aw s = true) : u7 (cI s.toNat) = true := by
  rcases b6 h with rfl | rfl | rfl | rfl <;> decide +kernel
def aeJ (c : List UInt64) (m : UInt64) : UInt64 := upto (fun k r => Hh r (c.getD (3 - k) 0) m) 0 4
theorem gD {m : UInt64} (h : dz m = true) : 0 < m.toNat := by
  rcases cD h with rfl | rfl <;> decide
theorem NB {a : ag} {m : UInt64} (h : dz m = true) : aeJ (lst a) m = UInt64.ofNat (a.nat % m.toNat) := by
  have hm := gD h
  rw [← UInt64.toNat_inj, UInt64.toNat_ofNat', Nat.mod_eq_of_lt (b := 2 ^ 64) (Nat.lt_trans (Nat.mod_lt _ hm) m.toNat_lt)]
  show (Hh (Hh (Hh (Hh 0 a.w3 m) a.w2 m) a.w1 m) a.w0 m).toNat = _
  rw [ka hm, ka hm, ka hm, ka hm, Df _ a.w2.toNat, Df _ a.w1.toNat, Df _ a.w0.toNat, show (0 : UInt64).toNat = 0 from rfl]
  congr 1
  unfold Sx.ag.nat
  omega
def p9 (s : cu) : Bool := decide (s.1.2.2.2.1 = 0 ∧ s.1.2.2.2.2.1 = 3 ∧ s.2.2.1.length = 4) && dz s.2.1.2.2.2.2.2.1
def DC (s : cu) : jq := (((), aeJ s.2.2.1 s.2.1.2.2.2.2.2.1, ()), (s.2.2.2.1, ()))
theorem adu : ∀ s : cu, p9 s = true → ∃ m e, aB xE m s = some e ∧ (DE DC s).run = some e := by
  rintro ⟨⟨⟨⟩, ⟨⟩, ⟨⟩, r, i, ⟨⟩⟩, ⟨⟨x0, x1, x2, x3, x4, sm, x6, x7, x8, x9, x10, ⟨⟩⟩, c1, c2, ⟨⟩⟩⟩ h
  simp only [p9, Bool.and_eq_true, decide_eq_true_eq] at h
  obtain ⟨⟨rfl, rfl, hl⟩, hs⟩ := h
  have hm := gD hs
  have := (bt (T := xE) (fun k r => ((((), (), (), r, 3 - (k : Int), ()), ((x0, x1, x2, x3, x4, sm, x6, x7, x8, x9, x10, ()), c1, c2, ())) : cu)) (fun k r => Hh r (c1.getD (3 - k) 0) sm)
    (fun r => (⟨(.exit 0, qa), (((), r, ()), (c2, ()))⟩ : aS)) 4 0 (fun _ r => r.toNat < sm.toNat) hm (fun k r hk hr => ⟨?_, ?_⟩) (fun r hr => ?_)).1
  · obtain ⟨m, hm⟩ := this
    exact ⟨m, _, hm, rfl⟩
  · have e1 : (3 - (k : Int)).toNat = 3 - k := by omega
    have e2 : (3 : Int) - (k : Int) - 1 = 3 - ((k + 1 : Nat) : Int) := by omega
    refine (OT.ax (decide_eq_true (by dsimp only; omega))).trans ((aj ?_).trans ?_)
    · simp only [e1, Nat.add_zero, hl, List.all_cons, List.all_nil, Bool.and_true, Bool.and_eq_true]
      refine ⟨aQ (by omega), decide_eq_true (by omega), ?_, aX (by omega)⟩
      simp only [mS, Bool.and_eq_true]
      exact ⟨hs, decide_eq_true (UInt64.lt_iff_toNat_lt.2 hr)⟩
    · simp only [OT.dq, e1, e2, Nat.add_zero]
  · rw [ka hm]
    exact Nat.mod_lt _ hm
  · exact OT.ay (decide_eq_false (by dsimp only; omega))
def afU (s : ct) : ag := ⟨s.2.1.1, s.2.1.2.1, s.2.1.2.2.1, s.2.1.2.2.2.1⟩
def vv (s : ct) : Bool := decide (s.2.2.1.length = 4 ∧ s.2.2.2.1.length = 4 ∧ 0 < (afU s).nat)
def DB (s : ct) : jp := (((), ()), (lst (ofN ((elemOf s.2.2.1).nat % (afU s).nat)), ()))
theorem Qr {x0 x1 x2 x3 x5 x6 x7 x8 x9 x10 : UInt64} {x4 : Int} {c2 : List UInt64} (hc : c2.length = 4) (hm : 0 < (ag.mk x0 x1 x2 x3).nat) : ∀ (n : Nat) (a : ag), a.nat = n →
    ∃ m, aB xD m (((), (), (), ()), ((x0, x1, x2, x3, x4, x5, x6, x7, x8, x9, x10, ()), lst a, c2, ())) = some ⟨(.ret, lg), (((), ()), (lst (ofN (a.nat % (ag.mk x0 x1 x2 x3).nat)), ()))⟩ := by
  intro n
  induction n using Nat.strongRecOn with
  | _ n ih =>
    intro a hn
    cases hb : Nat.blt a.nat (ag.mk x0 x1 x2 x3).nat
    · have hle : (ag.mk x0 x1 x2 x3).nat ≤ a.nat := by
        rcases Nat.lt_or_ge a.nat (ag.mk x0 x1 x2 x3).nat with h | h
        · have : Nat.blt a.nat (ag.mk x0 x1 x2 x3).nat = true := Nat.ble_eq_true_of_le h
          rw [this] at hb; cases hb
        · exact h
      have hd := o6 hle
      obtain ⟨m, hm2⟩ := ih (a.nat - (ag.mk x0 x1 x2 x3).nat) (by omega) (nu a ⟨x0, x1, x2, x3⟩).1 hd
      rw [hd, ← Nat.mod_eq_sub_mod hle] at hm2
      refine ⟨m + 1, bx ?_ hm2⟩
      refine (aj ?_).trans ((OT.ay hb).trans ((aj ?_).trans rfl))
      · rfl
      · rfl
    · have hlt := cK hb
      rw [Nat.mod_eq_of_lt hlt, C8]
      refine ⟨1, ca ?_⟩
      refine (aj ?_).trans ((OT.ax hb).trans ((aj ?_).trans ?_))
      · rfl
      · simp only [hc, List.all_cons, List.all_nil, Bool.and_true, Bool.and_eq_true]
        exact ⟨rfl, rfl⟩
      · show some (Sum.inr (⟨(.ret, lg), (((), ()), (lay c2 (lst a) 4 0, ()))⟩ : aS)) = _
        rw [Gh hc (ee a)]
theorem adt : ∀ s : ct, vv s = true → ∃ m e, aB xD m s = some e ∧ (DD DB s).run = some e := by
  rintro ⟨⟨⟨⟩, ⟨⟩, ⟨⟩, ⟨⟩⟩, ⟨⟨x0, x1, x2, x3, x4, x5, x6, x7, x8, x9, x10, ⟨⟩⟩, c1, c2, ⟨⟩⟩⟩ h
  have h' := of_decide_eq_true h
  dsimp only [afU] at h'
  obtain ⟨h1, h2, h3⟩ := h'
  obtain ⟨m, hm⟩ := Qr (x4 := x4) (x5 := x5) (x6 := x6) (x7 := x7) (x8 := x8) (x9 := x9) (x10 := x10) h2 h3 _ (elemOf c1) rfl
  rw [b8 h1] at hm
  exact ⟨m, _, hm, rfl⟩
def iB (x : Qt) : Bool := u7 x.1.1
def aaQ (x : Qt) : OT jr.Y := .ok ⟨j4, ((ofN (x.1.2.1.nat % x.1.1.1.nat), ()), ())⟩
theorem kT {n : Nat} (h : n < 18446744073709551616) : ofN n = ⟨UInt64.ofNat n, 0, 0, 0⟩ := by
  refine Ux (k := 0) ?_
  rw [UInt64.toNat_ofNat', Nat.mod_eq_of_lt (by omega)]
  simp
theorem xC {n : Ic} {a : ag} {m : UInt64} (h1 : n.1 = ⟨m, 0, 0, 0⟩) (h2 : n.2.2.1 = m) (hs : dz m = true) : (xF p9 DC vv DB n a).run = some ⟨j4, ((ofN (a.nat % n.1.nat), ()), ())⟩ := by
  have hm := gD hs
  have hn : n.1.nat = m.toNat := by rw [h1]; show m.toNat + _ * (0 + _ * (0 + _ * 0)) = _; omega
  have hz : (!(n.2.2.1 == 0)) = true := by
    rw [h2]
    rcases cD hs with rfl | rfl <;> rfl
  have hlt : a.nat % m.toNat < 18446744073709551616 := Nat.lt_trans (Nat.mod_lt _ hm) m.toNat_lt
  rw [hn, kT hlt]
  unfold xF
  refine (OT.ax hz).trans ?_
  cases hb : (a.w1 ||| a.w2 ||| a.w3 == 0)
  · refine (OT.ay rfl).trans ((aj ?_).trans ?_)
    · simp only [List.all_cons, List.all_nil, Bool.and_true, Bool.and_eq_true]
      refine ⟨?_, rfl, rfl⟩
      show (decide _ && dz n.2.2.1) = true
      rw [h2, hs, Bool.and_true]
      exact decide_eq_true ⟨rfl, rfl, rfl⟩
    · show some (⟨j4, ((⟨aeJ (lst a) n.2.2.1, 0, 0, 0⟩, ()), ())⟩ : jr.Y) = _
      rw [h2, NB hs]
  · refine (OT.ax rfl).trans ((aj ?_).trans ?_)
    · simp only [hz, List.all_cons, List.all_nil, Bool.and_true]
    · have hw : a.w1 = 0 ∧ a.w2 = 0 ∧ a.w3 = 0 := by
        have : a.w1 ||| a.w2 ||| a.w3 = 0 := by simpa using hb
        simpa [UInt64.or_eq_zero_iff, and_assoc] using this
      have ha : a.nat = a.w0.toNat := by
        unfold Sx.ag.nat
        rw [hw.1, hw.2.1, hw.2.2]
        show _ + _ * (0 + _ * (0 + _ * 0)) = _
        omega
      show some (⟨j4, ((⟨a.w0 % n.2.2.1, 0, 0, 0⟩, ()), ())⟩ : jr.Y) = _
      have e : a.w0 % n.2.2.1 = UInt64.ofNat (a.nat % m.toNat) := by
        rw [h2, ha, ← UInt64.toNat_inj, UInt64.toNat_mod, UInt64.toNat_ofNat']
        exact (Nat.mod_eq_of_lt (by rw [← ha]; omega)).symm
      rw [e]
theorem Bs {n : Ic} {a : ag} (h2 : n.2.2.1 = 0) (hs : 0 < n.1.nat) : (xF p9 DC vv DB n a).run = some ⟨j4, ((ofN (a.nat % n.1.nat), ()), ())⟩ := by
  unfold xF
  refine (OT.ay (by rw [h2]; rfl)).trans ((aj ?_).trans ?_)
  · simp only [List.all_cons, List.all_nil, Bool.and_true, Bool.and_eq_true]
    exact ⟨decide_eq_true ⟨rfl, rfl, hs⟩, rfl⟩
  · rfl
theorem agb : 0 < (cI 2).1.nat := by decide +kernel
theorem aga : 0 < (cI 3).1.nat := by decide +kernel
theorem ads : ab Try.prog 58 (jr.aE iB aaQ) := Vs p9 DC vv DB adu adt _ _ fun x oy hp ho => by
  rw [← ho]
  clear ho
  obtain ⟨⟨n, a, ⟨⟩⟩, ⟨⟩⟩ := x
  have hp' : u7 n = true := hp
  rcases oa hp' with rfl | rfl | rfl | rfl
  · exact xC (m := 16513537) rfl rfl rfl
  · exact xC (m := 16521217) rfl rfl rfl
  · exact Bs rfl agb
  · exact Bs rfl aga
def xz : bO := (jr.aE iB aaQ)
theorem Qs : ab Try.prog 58 xz := ads
theorem Qq : aD xz := aA
def Ix : Env := av 58 xz zt
theorem zm : aN Try.prog Ix := ah Qs lT
theorem zn : ar Ix := ac Qq zr
theorem Ry : aY Try.prog te Ix := aG follows ao zm zn
def gX : ak := ⟨[.val true (.prod .elem (.prod .int (.prod .u64 (.prod .u64 .elem)))), .val true .elem, .val true .elem], [], true, 0, false⟩
abbrev BA : Type := (((ag × (Int × (UInt64 × (UInt64 × ag))))) × (ag) × (ag) × Unit) × (Unit)
def DN : aq := ⟨[.val true .elem], [], false⟩
def G7 : SV → Option aq := fun _ => some DN
def KN (a0 : (ag × (Int × (UInt64 × (UInt64 × ag))))) (a1 : ag) (a2 : ag) : OT gX.Y :=
  let z0 : Nat := ag.nat a0.fst
  let z1 : ag := (tP (ofN (ag.nat a1 % z0)) (ofN (ag.nat a2 % z0))).fst
  (gd [iB ((a0, a1, ()), ()), iB ((a0, a2, ()), ()), iB ((a0, z1, ()), ())] (.ok ⟨DN, ((ofN (ag.nat z1 % z0), ()), ())⟩))
theorem adE (x : BA) (Q : gX.Y → Prop) : wpf te Ix az 1000 Try.f94 (gX.inp.inj x).tm (gX.inp.inj x).hp (fnK gX G7 Q) (fun _ _ => False) = (KN (x.1.1) (x.1.2.1) (x.1.2.2.1)).wpR Q := by kernel_rfl
theorem QN (pre : BA → Bool) (F : BA → OT gX.Y) (hF : ∀ (x : BA) oy, pre x = true → (F x).run = some oy → (KN (x.1.1) (x.1.2.1) (x.1.2.2.1)).run = some oy) : ab Try.prog 94 (gX.aE pre F) :=
  aC ao zm Ry (f := 94) (fn := Try.f94) (c := al Try.f94) (by kernel_rfl) (by kernel_rfl) (by kernel_rfl) (S := gX) (k := 0) (by kernel_rfl) (fun R hR => ae) (n := 1000) (sel := G7) (fun v o h => by cases h; rfl) (pre := pre) (F := F) (T := fun x => KN (x.1.1) (x.1.2.1) (x.1.2.2.1)) (fun x Q => adE x Q) hF
theorem wX {n : Ic} (h : u7 n = true) : 0 < n.1.nat ∧ n.1.nat < 57896044618658097711785492504343953926634992332820282019728792003956564819968 := by
  rcases oa h with rfl | rfl | rfl | rfl
  · exact ⟨by decide +kernel, by decide +kernel⟩
  · exact ⟨by decide +kernel, by decide +kernel⟩
  · exact ⟨by decide +kernel, by decide +kernel⟩
  · exact ⟨by decide +kernel, by decide +kernel⟩
def pS (s : Int) : Nat := (cI s.toNat).1.nat
theorem F7 {s : Int} (h : aw s = true) : 0 < pS s ∧ pS s < 57896044618658097711785492504343953926634992332820282019728792003956564819968 := wX (vq h)
def th (p : Nat) (a b : ag) : ag := ofN ((a.nat + b.nat) % p)
def pL (p : Nat) (a b : ag) : ag := ofN (a.nat * b.nat % p)
theorem jT {p n : Nat} (h : 0 < p ∧ p < 57896044618658097711785492504343953926634992332820282019728792003956564819968) : (ofN (n % p)).nat = n % p := by
  have := Nat.mod_lt n h.1
  exact iQ (by omega)
theorem WW {p : Nat} (h : 0 < p ∧ p < 57896044618658097711785492504343953926634992332820282019728792003956564819968) (a b : ag) : ofN ((tP (ofN (a.nat % p)) (ofN (b.nat % p))).1.nat % p) = th p a b := by
  have ha := Nat.mod_lt a.nat h.1
  have hb := Nat.mod_lt b.nat h.1
  have e : (tP (ofN (a.nat % p)) (ofN (b.nat % p))).1.nat = a.nat % p + b.nat % p := by
    show (ofN _).nat = _
    rw [jT h, jT h]
    exact iQ (by omega)
  unfold th
  rw [e, ← Nat.add_mod]
def xX (x : BA) : Bool := u7 x.1.1
def KO (x : BA) : OT gX.Y := .ok ⟨DN, ((th x.1.1.1.nat x.1.2.1 x.1.2.2.1, ()), ())⟩
theorem ZE : ab Try.prog 94 (gX.aE xX KO) := QN _ _ fun x oy hp ho => by
  rw [← ho]
  clear ho
  obtain ⟨⟨n, a, b, ⟨⟩⟩, ⟨⟩⟩ := x
  have hp' : u7 n = true := hp
  refine (aj ?_).trans ?_
  · simp only [List.all_cons, List.all_nil, Bool.and_true, Bool.and_eq_true]
    exact ⟨hp', hp', hp'⟩
  · simp only [KO, WW (wX hp')]
def sP : bO := (gX.aE xX KO)
theorem KM : ab Try.prog 94 sP := ZE
theorem KL : aD sP := aA
def zx : Env := av 94 sP Ix
theorem tL : aN Try.prog zx := ah KM zm
theorem uT : ar zx := ac KL zn
theorem LQ : aY Try.prog te zx := aG follows ao tL uT
def ln : ak := ⟨[.val false .int, .val true .elem, .val true .elem], [], true, 0, false⟩
abbrev QM : Type := ((Int) × (ag) × (ag) × Unit) × (Unit)
def xW : aq := ⟨[.val true .elem], [], false⟩
def Oo : SV → Option aq := fun _ => some xW
def VH (a0 : Int) (a1 : ag) (a2 : ag) : OT ln.Y :=
  let z0 : ag × Int × UInt64 × UInt64 × ag := cI (Int.toNat a0)
  (.br (aw a0)
  (gd [xX ((z0, a1, a2, ()), ())] (.ok ⟨xW, ((th (ag.nat z0.fst) a1 a2, ()), ())⟩))
  (.ok ⟨xW, (({ w0 := 0, w1 := 0, w2 := 0, w3 := 0 }, ()), ())⟩))
theorem afc (x : QM) (Q : ln.Y → Prop) : wpf te zx az 1000 Try.f79 (ln.inp.inj x).tm (ln.inp.inj x).hp (fnK ln Oo Q) (fun _ _ => False) = (VH (x.1.1) (x.1.2.1) (x.1.2.2.1)).wpR Q := by kernel_rfl
theorem VG (pre : QM → Bool) (F : QM → OT ln.Y) (hF : ∀ (x : QM) oy, pre x = true → (F x).run = some oy → (VH (x.1.1) (x.1.2.1) (x.1.2.2.1)).run = some oy) : ab Try.prog 79 (ln.aE pre F) :=
  aC ao tL LQ (f := 79) (fn := Try.f79) (c := al Try.f79) (by kernel_rfl) (by kernel_rfl) (by kernel_rfl) (S := ln) (k := 0) (by kernel_rfl) (fun R hR => ae) (n := 1000) (sel := Oo) (fun v o h => by cases h; rfl) (pre := pre) (F := F) (T := fun x => VH (x.1.1) (x.1.2.1) (x.1.2.2.1)) (fun x Q => afc x Q) hF
def Oq (_ : QM) : Bool := true
def aaV (x : QM) : OT ln.Y := .br (aw x.1.1) (.ok ⟨xW, ((th (pS x.1.1) x.1.2.1 x.1.2.2.1, ()), ())⟩) (.ok ⟨xW, ((⟨0, 0, 0, 0⟩, ()), ())⟩)
theorem adD : ab Try.prog 79 (ln.aE Oq aaV) := VG _ _ fun x oy hp ho => by
  rw [← ho]
  clear ho
  obtain ⟨⟨s, a, b, ⟨⟩⟩, ⟨⟩⟩ := x
  cases hs : aw s
  · exact (OT.ay hs).trans (OT.ay (b := aw s) hs).symm
  · refine (OT.ax hs).trans ((aj ?_).trans (OT.ax (b := aw s) hs).symm)
    simp only [List.all_cons, List.all_nil, Bool.and_true]
    exact vq hs
def xV : bO := (ln.aE Oq aaV)
theorem QL : ab Try.prog 79 xV := adD
theorem QK : aD xV := aA
def Ci : Env := av 79 xV zx
theorem rb : aN Try.prog Ci := ah QL tL
theorem zw : ar Ci := ac QK uT
theorem Cg : aY Try.prog te Ci := aG follows ao rb zw
end Go.Proofs.Ytohjofabochgfaa

namespace Go.Proofs.Ytohjofabochgfaa
open Sx Go
def l6 (n : Nat) : List UInt64 := [UInt64.ofNat n, UInt64.ofNat (n / 18446744073709551616), UInt64.ofNat (n / 18446744073709551616 / 18446744073709551616), UInt64.ofNat (n / 18446744073709551616 / 18446744073709551616 / 18446744073709551616),
  UInt64.ofNat (n / 18446744073709551616 / 18446744073709551616 / 18446744073709551616 / 18446744073709551616), UInt64.ofNat (n / 18446744073709551616 / 18446744073709551616 / 18446744073709551616 / 18446744073709551616 / 18446744073709551616)]
def v6 (l : List UInt64) : Nat := (l.getD 0 0).toNat + 18446744073709551616 * ((l.getD 1 0).toNat + 18446744073709551616 * ((l.getD 2 0).toNat + 18446744073709551616 * ((l.getD 3 0).toNat + 18446744073709551616 * ((l.getD 4 0).toNat + 18446744073709551616 * (l.getD 5 0).toNat))))
theorem ed {m : Nat} {x : UInt64} (hm : m % 18446744073709551616 = x.toNat) : UInt64.ofNat m = x := by
  rw [← UInt64.toNat_inj, UInt64.toNat_ofNat']
  exact hm
theorem afN {n : Nat} {a b c d e : UInt64} {k : Nat} {f : UInt64} (h : n = a.toNat + 18446744073709551616 * (b.toNat + 18446744073709551616 * (c.toNat + 18446744073709551616 * (d.toNat + 18446744073709551616 * (e.toNat + 18446744073709551616 * k))))) (hf : k % 18446744073709551616 = f.toNat) : l6 n = [a, b, c, d, e, f] := by
  obtain ⟨h1, h0⟩ := div_eq a.toNat_lt h
  obtain ⟨h2, h3⟩ := div_eq b.toNat_lt h1
  obtain ⟨h4, h5⟩ := div_eq c.toNat_lt h2
  obtain ⟨h6, h7⟩ := div_eq d.toNat_lt h4
  obtain ⟨h8, h9⟩ := div_eq e.toNat_lt h6
  unfold l6
  rw [ed (x := a) h0, ed (x := b) h3, ed (x := c) h5, ed (x := d) h7, ed (x := e) h9, ed (x := f) (by rw [h8]; exact hf)]
theorem UT (n : Nat) : (l6 n).length = 6 := rfl
def aem (t a x c : UInt64) : UInt64 := nv t (nv (a * x) c 0) 0
def rC (t a x c : UInt64) : UInt64 := Xa a x + o1 (a * x) c 0 + o1 t (nv (a * x) c 0) 0
theorem ad9 {t P p h c l k1 r k2 W : Nat} (hP : P = p + W * h) (h1 : p + c = l + W * k1) (h2 : t + l = r + W * k2) : t + P + c = r + W * (h + k1 + k2) := by
  rw [Nat.mul_add, Nat.mul_add]
  omega
theorem WY {t P c r q W : Nat} (hW : 0 < W) (ht : t ≤ W - 1) (hc : c ≤ W - 1) (hP : P ≤ (W - 1) * (W - 1)) (h : t + P + c = r + W * q) : q < W := by
  obtain ⟨V, rfl⟩ : ∃ V, W = V + 1 := ⟨W - 1, by omega⟩
  rw [Nat.add_sub_cancel] at *
  refine Nat.lt_of_not_le fun hq => ?_
  have h1 : (V + 1) * (V + 1) ≤ (V + 1) * q := Nat.mul_le_mul_left _ hq
  have h2 : (V + 1) * (V + 1) = V * V + V + V + 1 := by rw [Nat.add_mul, Nat.mul_add, Nat.one_mul, Nat.mul_one]; omega
  omega
theorem Y9 (a x : UInt64) : (Xa a x).toNat = a.toNat * x.toNat / 18446744073709551616 := by
  have ha := a.toNat_lt
  have hx := x.toNat_lt
  have : a.toNat * x.toNat / 18446744073709551616 < 18446744073709551616 := by
    rw [Nat.div_lt_iff_lt_mul (by omega)]
    exact Nat.mul_lt_mul'' ha hx
  unfold Xa
  rw [UInt64.toNat_ofNat', Nat.mod_eq_of_lt this]
theorem vI (t a x c : UInt64) : t.toNat + a.toNat * x.toNat + c.toNat = (aem t a x c).toNat + 18446744073709551616 * (rC t a x c).toNat := by
  have hP : a.toNat * x.toNat = (a * x).toNat + 18446744073709551616 * (Xa a x).toNat := by
    rw [Y9, UInt64.toNat_mul]
    exact (Nat.mod_add_div _ _).symm
  have h1 := ic (a * x) c 0
  have h2 := ic t (nv (a * x) c 0) 0
  rw [show (0 : UInt64).toNat = 0 from rfl, Nat.add_zero] at h1 h2
  have key := ad9 hP h1 h2
  have hb := WY (W := 18446744073709551616) (by omega) (Nat.le_sub_one_of_lt t.toNat_lt) (Nat.le_sub_one_of_lt c.toNat_lt) (Nat.mul_le_mul (Nat.le_sub_one_of_lt a.toNat_lt) (Nat.le_sub_one_of_lt x.toNat_lt)) key
  have e : (rC t a x c).toNat = (Xa a x).toNat + (o1 (a * x) c 0).toNat + (o1 t (nv (a * x) c 0) 0).toNat := by
    unfold rC
    rw [UInt64.toNat_add, UInt64.toNat_add, Nat.mod_add_mod]
    exact Nat.mod_eq_of_lt hb
  rw [e]
  exact key
theorem vJ {t a x c s k T A R W : Nat} (h1 : t + a * x + c = s + W * k) (h2 : T + A * x + k = R) : (t + W * T) + (a + W * A) * x + c = s + W * R := by
  rw [Nat.add_mul, Nat.mul_assoc, ← h2, Nat.mul_add, Nat.mul_add]
  omega
def af7 (t0 t1 t2 t3 t4 t5 : UInt64) (a : ag) (x : UInt64) : List UInt64 :=
  let k0 := rC t0 a.w0 x 0
  let k1 := rC t1 a.w1 x k0
  let k2 := rC t2 a.w2 x k1
  let k3 := rC t3 a.w3 x k2
  [aem t0 a.w0 x 0, aem t1 a.w1 x k0, aem t2 a.w2 x k1, aem t3 a.w3 x k2, nv t4 k3 0, t5 + o1 t4 k3 0]
theorem aea (t0 t1 t2 t3 t4 t5 : UInt64) (a : ag) (x : UInt64) : af7 t0 t1 t2 t3 t4 t5 a x = l6 (v6 [t0, t1, t2, t3, t4, t5] + a.nat * x.toNat) := by
  have h4 := ic t4 (rC t3 a.w3 x (rC t2 a.w2 x (rC t1 a.w1 x (rC t0 a.w0 x 0)))) 0
  rw [show (0 : UInt64).toNat = 0 from rfl, Nat.add_zero] at h4
  have h5 : (t4.toNat + 18446744073709551616 * t5.toNat) + 0 * x.toNat + (rC t3 a.w3 x (rC t2 a.w2 x (rC t1 a.w1 x (rC t0 a.w0 x 0)))).toNat =
      (nv t4 (rC t3 a.w3 x (rC t2 a.w2 x (rC t1 a.w1 x (rC t0 a.w0 x 0)))) 0).toNat + 18446744073709551616 * (t5.toNat + (o1 t4 (rC t3 a.w3 x (rC t2 a.w2 x (rC t1 a.w1 x (rC t0 a.w0 x 0)))) 0).toNat) := by
    rw [Nat.zero_mul, Nat.mul_add]
    omega
  have h := vJ (vI t0 a.w0 x 0) (vJ (vI t1 a.w1 x _) (vJ (vI t2 a.w2 x _) (vJ (vI t3 a.w3 x _) h5)))
  rw [show (0 : UInt64).toNat = 0 from rfl, Nat.add_zero, Nat.mul_zero, Nat.add_zero] at h
  exact (afN (f := t5 + o1 t4 (rC t3 a.w3 x (rC t2 a.w2 x (rC t1 a.w1 x (rC t0 a.w0 x 0)))) 0) h (by rw [UInt64.toNat_add])).symm
end Go.Proofs.Ytohjofabochgfaa

namespace Go.Proofs.Ytohjofabochgfaa
open Sx Go
set_option maxRecDepth 100000
def lp : ak := ⟨[.val true (.arr 6 .u64), .val true .elem, .val false .u64], [], true, 0, false⟩
abbrev QQ : Type := ((List (UInt64)) × (ag) × (UInt64) × Unit) × (Unit)
def xZ : Shape := ⟨61, [(2, .val false .u64), (3, .ptr 0 0 0), (4, .ptr 1 0 0), (6, .ptr 2 0 0), (7, .val false .u64), (13, .val false .int)], [(0, .row .u64), (1, .row .u64), (2, .row .u64)], 0, true⟩
abbrev cv : Type := ((UInt64) × (Unit) × (Unit) × (Unit) × (UInt64) × (Int) × Unit) × ((List (UInt64)) × (List (UInt64)) × (List (UInt64)) × Unit)
def qe : Shape := ⟨61, [(3, .ptr 0 0 0), (6, .ptr 1 0 0), (7, .val false .u64)], [(0, .row .u64), (1, .row .u64)], 0, true⟩
abbrev jw : Type := ((Unit) × (Unit) × (UInt64) × Unit) × ((List (UInt64)) × (List (UInt64)) × Unit)
def VI : SE → Option Shape := nt [(0, qe)] none
def adI (a2 : UInt64) (a7 : UInt64) (a13 : Int) (c0 : List (UInt64)) (c1 : List (UInt64)) (c2 : List (UInt64)) : OT (Sum cv aS) :=
  let z0 : Bool := inB a13 6
  let z1 : Bool := decide (Int.toNat a13 + 0 < List.length c0)
  let z2 : UInt64 := List.getD c1 (Int.toNat a13 + 0) (0 : UInt64)
  let z3 : UInt64 := List.getD c0 (Int.toNat a13 + 0) (0 : UInt64)
  let z4 : UInt64 := nv (z2 * a2) a7 (0 : UInt64)
  (.br (decide (a13 < (4 : Int)))
  (gd [inB a13 4, decide (Int.toNat a13 + 0 < List.length c1), z0, z1, z0, z1, inR (a13 + (1 : Int))] (.ok (.inl ((a2, ((), ((), ((), (Xa z2 a2 + o1 (z2 * a2) a7 (0 : UInt64) + o1 z3 z4 (0 : UInt64), (a13 + (1 : Int), ())))))), (List.set c0 (Int.toNat a13 + 0) (nv z3 z4 (0 : UInt64)), (c1, (c2, ())))))))
  (.ok (.inr ⟨(.exit 0, qe), (((), ((), (a7, ()))), (c0, (c2, ())))⟩)))
def ya (s : cv) : OT (Sum cv aS) := adI (s.1.1) (s.1.2.2.2.2.1) (s.1.2.2.2.2.2.1) (s.2.1) (s.2.2.1) (s.2.2.2.1)
theorem adF (s : cv) (Q : Sum cv aS → Prop) : wps te Ci az 1000 (bM (al Try.f98) 0) (xZ.inj s) (dm xZ VI (Q : Sum xZ.T aS → Prop)) = (ya s).wpR Q := by kernel_rfl
def DO (g0_0 : cv → jw) (s : cv) : OT aS := (.ok ⟨(.exit 0, qe), g0_0 s⟩)
def KP : aq := ⟨[.val true (.arr 6 .u64)], [], false⟩
def Ot : SV → Option aq := fun _ => some KP
def VL (ok0 : cv → Bool) (g0_0 : cv → jw) (a0 : List (UInt64)) (a1 : ag) (a2 : UInt64) : OT lp.Y :=
  let z0 : (UInt64 × PUnit × PUnit × PUnit × UInt64 × Int × PUnit) × List UInt64 × List UInt64 × List UInt64 × PUnit := ((a2, (), (), (), (0 : UInt64), (0 : Int), ()), tab a0 6 (0 : UInt64), [a1.w0, a1.w1, a1.w2, a1.w3], [(0 : UInt64), (0 : UInt64), (0 : UInt64), (0 : UInt64), (0 : UInt64), (0 : UInt64)], ())
  let z1 : (PUnit × PUnit × UInt64 × PUnit) × List UInt64 × List UInt64 × PUnit := g0_0 z0
  let z2 := z1.snd
  let z3 := z2.fst
  let z4 : Bool := decide (4 < List.length z3)
  let z5 : UInt64 := List.getD z3 4 0
  let z6 := z1.fst.snd.snd.fst
  let z7 : List UInt64 := List.set z3 4 (nv z5 z6 (0 : UInt64))
  let z8 : Bool := decide (5 < List.length z7)
  let z9 : List UInt64 := List.set z7 5 (List.getD z7 5 0 + o1 z5 z6 (0 : UInt64))
  let z10 := z2.snd.fst
  let z11 : List UInt64 := lay z10 z9 6 (0 : UInt64)
  (gd [ok0 z0, z4, z4, z8, z8, decide (6 ≤ List.length z9), decide ((6 / 1 : Nat) + 0 ≤ List.length z10), decide (6 ≤ List.length z11)] (.ok ⟨KP, ((tab z11 6 (0 : UInt64), ()), ())⟩))
theorem afd (ok0 : cv → Bool) (g0_0 : cv → jw) (x : QQ) (Q : lp.Y → Prop) : wpf te Ci (bK 0 (dZ xZ 0 ok0 (DO g0_0)) az) 1000 Try.f98 (lp.inp.inj x).tm (lp.inp.inj x).hp (fnK lp Ot Q) (fun _ _ => False) = (VL ok0 g0_0 (x.1.1) (x.1.2.1) (x.1.2.2.1)).wpR Q := by kernel_rfl
theorem VJ (ok0 : cv → Bool) (g0_0 : cv → jw) (h0 : ∀ s : cv, ok0 s = true → ∃ m e, aB (ya) m s = some e ∧ (DO g0_0 s).run = some e) (pre : QQ → Bool) (F : QQ → OT lp.Y) (hF : ∀ (x : QQ) oy, pre x = true → (F x).run = some oy → (VL ok0 g0_0 (x.1.1) (x.1.2.1) (x.1.2.2.1)).run = some oy) : ab Try.prog 98 (lp.aE pre F) :=
  aC ao rb Cg (f := 98) (fn := Try.f98) (c := al Try.f98) (by kernel_rfl) (by kernel_rfl) (by kernel_rfl) (S := lp) (k := 0) (by kernel_rfl) (fun R hR => (aL (c := (al Try.f98)) (by kernel_rfl) (id := 0) (by kernel_rfl) (bJ ao rb Cg (sh := xZ) hR (xs := VI) (aI (by kernel_rfl) (by kernel_rfl) hR) bk ae (n := 1000) (T := ya) (fun s Q => adF s Q) (ok := ok0) (f := DO g0_0) h0) ae)) (n := 1000) (sel := Ot) (fun v o h => by cases h; rfl) (pre := pre) (F := F) (T := fun x => VL ok0 g0_0 (x.1.1) (x.1.2.1) (x.1.2.2.1)) (fun x Q => afd ok0 g0_0 x Q) hF
def aan (a : List UInt64) (x : UInt64) (k : Nat) (s : List UInt64 × UInt64) : List UInt64 × UInt64 := (s.1.set k (aem (s.1.getD k 0) (a.getD k 0) x s.2), rC (s.1.getD k 0) (a.getD k 0) x s.2)
def Ov (s : cv) : Bool := decide (s.1.2.2.2.2.1 = 0 ∧ s.1.2.2.2.2.2.1 = 0 ∧ s.2.1.length = 6 ∧ s.2.2.1.length = 4)
def VK (s : cv) : jw := (((), (), (upto (aan s.2.2.1 s.1.1) (s.2.1, 0) 4).2, ()), ((upto (aan s.2.2.1 s.1.1) (s.2.1, 0) 4).1, s.2.2.2.1, ()))
theorem adH : ∀ s : cv, Ov s = true → ∃ m e, aB ya m s = some e ∧ (DO VK s).run = some e := by
  rintro ⟨⟨x, ⟨⟩, ⟨⟩, ⟨⟩, c, i, ⟨⟩⟩, ⟨t, a, o, ⟨⟩⟩⟩ h
  have h' := of_decide_eq_true h
  dsimp only at h'
  obtain ⟨rfl, rfl, ht, ha⟩ := h'
  have := (bt (T := ya) (fun k s => (((x, (), (), (), s.2, (k : Int), ()), (s.1, a, o, ())) : cv)) (aan a x)
    (fun s => (⟨(.exit 0, qe), (((), (), s.2, ()), (s.1, o, ()))⟩ : aS)) 4 (t, 0) (fun _ s => s.1.length = 6) ht (fun k s hk hs => ⟨?_, ?_⟩) (fun s hs => ?_)).1
  · obtain ⟨m, hm⟩ := this
    exact ⟨m, _, hm, rfl⟩
  · refine (OT.ax (decide_eq_true (by dsimp only; omega))).trans ((aj ?_).trans ?_)
    · simp only [Int.toNat_natCast, Nat.add_zero, hs, ha, List.all_cons, List.all_nil, Bool.and_true, Bool.and_eq_true]
      exact ⟨aQ (by omega), decide_eq_true (by omega), aQ (by omega), decide_eq_true (by omega), aQ (by omega), decide_eq_true (by omega), aX (by omega)⟩
    · simp only [OT.dq, Int.toNat_natCast, Nat.add_zero]
      rfl
  · simp only [aan, List.length_set]
    exact hs
  · exact OT.ay (decide_eq_false (by dsimp only; omega))
def Ou (_ : QQ) : Bool := true
def VM (x : QQ) : OT lp.Y := .ok ⟨KP, ((l6 (v6 x.1.1 + x.1.2.1.nat * x.1.2.2.1.toNat), ()), ())⟩
theorem adG : ab Try.prog 98 (lp.aE Ou VM) := VJ Ov VK adH _ _ fun x oy hp ho => by
  rw [← ho]
  clear ho
  obtain ⟨⟨t, a, x, ⟨⟩⟩, ⟨⟩⟩ := x
  refine (aj ?_).trans ?_
  · simp only [List.all_cons, List.all_nil, Bool.and_true, Bool.and_eq_true]
    exact ⟨rfl, rfl, rfl, rfl, rfl, rfl, rfl, rfl⟩
  · have e := aea (t.getD 0 0) (t.getD 1 0) (t.getD 2 0) (t.getD 3 0) (t.getD 4 0) (t.getD 5 0) a x
    have e2 : l6 (v6 t + a.nat * x.toNat) = af7 (t.getD 0 0) (t.getD 1 0) (t.getD 2 0) (t.getD 3 0) (t.getD 4 0) (t.getD 5 0) a x := e.symm
    simp only [VM, e2]
    rfl
def xY : bO := (lp.aE Ou VM)
theorem QP : ab Try.prog 98 xY := adG
theorem QO : aD xY := aA
def Ck : Env := av 98 xY Ci
theorem rc : aN Try.prog Ck := ah QP rb
theorem zy : ar Ck := ac QO zw
theorem Cj : aY Try.prog te Ck := aG follows ao rc zy
end Go.Proofs.Ytohjofabochgfaa

namespace Go.Proofs.Ytohjofabochgfaa
open Sx Go
theorem aeq {n : Nat} (h : n / 18446744073709551616 / 18446744073709551616 / 18446744073709551616 / 18446744073709551616 / 18446744073709551616 < 18446744073709551616) : v6 (l6 n) = n := by
  unfold v6 l6
  simp only [List.getD_cons_zero, List.getD_cons_succ, UInt64.toNat_ofNat']
  rw [show (2 : Nat) ^ 64 = 18446744073709551616 from rfl]
  omega
def wu (p neg a : Nat) (b t : Nat) : Nat := (t + a * b + p * ((t + a * b) * neg % 18446744073709551616)) / 18446744073709551616
theorem mj {p neg a b t : Nat} (hn : (p * neg + 1) % 18446744073709551616 = 0) : 18446744073709551616 * wu p neg a b t = t + a * b + p * ((t + a * b) * neg % 18446744073709551616) := by
  unfold wu
  refine Nat.mul_div_cancel' (Nat.dvd_of_mod_eq_zero ?_)
  generalize t + a * b = u
  rw [Nat.add_mod, Nat.mul_mod, Nat.mod_mod, ← Nat.mul_mod, ← Nat.add_mod]
  have : u + p * (u * neg) = u * (p * neg + 1) := by
    rw [Nat.mul_add, Nat.mul_one, Nat.mul_left_comm]
    omega
  rw [this, Nat.mul_mod, hn, Nat.mul_zero, Nat.zero_mod]
theorem mi {p neg a b t : Nat} (hn : (p * neg + 1) % 18446744073709551616 = 0) (ht : t < 2 * p) (ha : a < p) (hb : b < 18446744073709551616) : wu p neg a b t < 2 * p := by
  have h := mj (a := a) (b := b) (t := t) hn
  have hm : (t + a * b) * neg % 18446744073709551616 ≤ 18446744073709551615 := by
    have := Nat.mod_lt ((t + a * b) * neg) (show 0 < 18446744073709551616 by omega)
    omega
  have h1 : p * ((t + a * b) * neg % 18446744073709551616) ≤ p * 18446744073709551615 := Nat.mul_le_mul_left _ hm
  have h2 : a * b ≤ p * 18446744073709551615 := Nat.mul_le_mul (by omega) (by omega)
  omega
theorem acO {p a b t t1 m K T B M W : Nat} (h1 : W * t1 = t + a * b + p * m) (h2 : K * T = t1 + a * B + p * M) : (W * K) * T = t + a * (b + W * B) + p * (m + W * M) := by
  have e : (W * K) * T = W * t1 + W * (a * B) + W * (p * M) := by rw [Nat.mul_assoc, h2, Nat.mul_add, Nat.mul_add]
  rw [e, h1, Nat.mul_add, Nat.mul_add, Nat.mul_left_comm a W, Nat.mul_left_comm p W]
  omega
theorem af9 {p a b T K M r : Nat} (h : K * T = a * b + p * M) (hr : K * r % p = 1 % p) : T % p = a * b * r % p := by
  have h1 : (K * T) * r = a * b * r + p * (M * r) := by rw [h, Nat.add_mul, Nat.mul_assoc p]
  have h2 : a * b * r % p = (K * T * r) % p := by rw [h1, Nat.add_mul_mod_self_left]
  have h3 : K * T * r = T * (K * r) := by rw [Nat.mul_comm K T, Nat.mul_assoc]
  rw [h2, h3, Nat.mul_mod, hr, ← Nat.mul_mod, Nat.mul_one]
def aeX (p neg a : Nat) (b : ag) : Nat := wu p neg a b.w3.toNat (wu p neg a b.w2.toNat (wu p neg a b.w1.toNat (wu p neg a b.w0.toNat 0)))
theorem Za {p neg a r : Nat} {b : ag} (hn : (p * neg + 1) % 18446744073709551616 = 0) (hr : 115792089237316195423570985008687907853269984665640564039457584007913129639936 * r % p = 1 % p) : aeX p neg a b % p = a * b.nat * r % p := by
  have h := acO (mj (a := a) (b := b.w0.toNat) (t := 0) hn) (acO (mj (a := a) (b := b.w1.toNat) hn) (acO (mj (a := a) (b := b.w2.toNat) hn) (show 18446744073709551616 * _ = _ + a * b.w3.toNat + p * _ from mj hn)))
  rw [Nat.zero_add] at h
  exact af9 (K := 18446744073709551616 * (18446744073709551616 * (18446744073709551616 * 18446744073709551616))) h hr
theorem adf {p neg a : Nat} {b : ag} (hn : (p * neg + 1) % 18446744073709551616 = 0) (ha : a < p) : aeX p neg a b < 2 * p :=
  mi hn (mi hn (mi hn (mi hn (by omega) ha b.w0.toNat_lt) ha b.w1.toNat_lt) ha b.w2.toNat_lt) ha b.w3.toNat_lt
theorem adg {T p : Nat} (h : T < 2 * p) : T % p = if T < p then T else T - p := by
  split
  · exact Nat.mod_eq_of_lt ‹_›
  · rw [Nat.mod_eq_sub_mod (by omega), Nat.mod_eq_of_lt (by omega)]
end Go.Proofs.Ytohjofabochgfaa

namespace Go.Proofs.Ytohjofabochgfaa
open Sx Go
set_option maxRecDepth 100000
def fL : ak := ⟨[.val true (.prod .elem (.prod .int (.prod .u64 (.prod .u64 .elem)))), .val true .elem, .val true .elem], [], true, 0, false⟩
abbrev Br : Type := (((ag × (Int × (UInt64 × (UInt64 × ag))))) × (ag) × (ag) × Unit) × (Unit)
def pY : Shape := ⟨61, [(3, .ptr 0 0 0), (4, .ptr 1 0 0), (6, .ptr 2 0 0), (7, .ptr 3 0 0), (13, .val true .elem), (14, .val false .int)], [(0, .cells [.val false .u64, .val false .u64, .val false .u64, .val false .u64, .val false .int, .val false .u64, .val false .u64, .val false .u64, .val false .u64, .val false .u64, .val false .u64]), (1, .row .u64), (2, .row .u64), (3, .row .u64)], 0, true⟩
abbrev bF : Type := ((Unit) × (Unit) × (Unit) × (Unit) × (ag) × (Int) × Unit) × (((UInt64) × (UInt64) × (UInt64) × (UInt64) × (Int) × (UInt64) × (UInt64) × (UInt64) × (UInt64) × (UInt64) × (UInt64) × Unit) × (List (UInt64)) × (List (UInt64)) × (List (UInt64)) × Unit)
def mF : Shape := ⟨61, [(3, .ptr 0 0 0), (6, .ptr 1 0 0), (7, .ptr 2 0 0)], [(0, .cells [.val false .u64, .val false .u64, .val false .u64, .val false .u64, .val false .int, .val false .u64, .val false .u64, .val false .u64, .val false .u64, .val false .u64, .val false .u64]), (1, .row .u64), (2, .row .u64)], 0, true⟩
abbrev gU : Type := ((Unit) × (Unit) × (Unit) × Unit) × (((UInt64) × (UInt64) × (UInt64) × (UInt64) × (Int) × (UInt64) × (UInt64) × (UInt64) × (UInt64) × (UInt64) × (UInt64) × Unit) × (List (UInt64)) × (List (UInt64)) × Unit)
def Of : SE → Option Shape := nt [(0, mF)] none
def DA (a13 : ag) (a14 : Int) (c0_0 : UInt64) (c0_1 : UInt64) (c0_2 : UInt64) (c0_3 : UInt64) (c0_4 : Int) (c0_5 : UInt64) (c0_6 : UInt64) (c0_7 : UInt64) (c0_8 : UInt64) (c0_9 : UInt64) (c0_10 : UInt64) (c1 : List (UInt64)) (c2 : List (UInt64)) (c3 : List (UInt64)) : OT (Sum bF aS) :=
  let z0 : Nat := List.length c3
  let z1 : List UInt64 := lay c3 (l6 (v6 (tab c3 6 (0 : UInt64)) + ag.nat { w0 := List.getD c1 0 0, w1 := List.getD c1 1 0, w2 := List.getD c1 2 0, w3 := List.getD c1 3 0 } * UInt64.toNat (List.getD [a13.w0, a13.w1, a13.w2, a13.w3] (Int.toNat a14) (0 : UInt64)))) 6 (0 : UInt64)
  let z2 : Nat := List.length z1
  let z3 : List UInt64 := lay z1 (l6 (v6 (tab z1 6 (0 : UInt64)) + ag.nat { w0 := c0_0, w1 := c0_1, w2 := c0_2, w3 := c0_3 } * UInt64.toNat (List.getD z1 0 0 * c0_6))) 6 (0 : UInt64)
  let z4 : Nat := List.length z3
  (.br (decide (a14 < (4 : Int)))
  (gd [inB a14 4, decide (6 ≤ z0), decide (4 ≤ List.length c1), decide ((6 / 1 : Nat) + 0 ≤ z0), decide (6 ≤ z2), decide (0 < z2), decide ((6 / 1 : Nat) + 0 ≤ z2), decide (1 < z4), decide (2 < z4), decide (3 < z4), decide (4 < z4), decide (5 < z4), decide ((6 / 1 : Nat) + 0 ≤ z4), inR (a14 + (1 : Int))] (.ok (.inl (((), ((), ((), ((), (a13, (a14 + (1 : Int), ())))))), ((c0_0, (c0_1, (c0_2, (c0_3, (c0_4, (c0_5, (c0_6, (c0_7, (c0_8, (c0_9, (c0_10, ()))))))))))), (c1, (c2, (List.set (List.set (List.set (List.set (List.set (List.set z3 0 (List.getD z3 1 0)) 1 (List.getD z3 2 0)) 2 (List.getD z3 3 0)) 3 (List.getD z3 4 0)) 4 (List.getD z3 5 0)) 5 (0 : UInt64), ()))))))))
  (.ok (.inr ⟨(.exit 0, mF), (((), ((), ((), ()))), ((c0_0, (c0_1, (c0_2, (c0_3, (c0_4, (c0_5, (c0_6, (c0_7, (c0_8, (c0_9, (c0_10, ()))))))))))), (c2, (c3, ()))))⟩)))
def pZ (s : bF) : OT (Sum bF aS) := DA (s.1.2.2.2.2.1) (s.1.2.2.2.2.2.1) (s.2.1.1) (s.2.1.2.1) (s.2.1.2.2.1) (s.2.1.2.2.2.1) (s.2.1.2.2.2.2.1) (s.2.1.2.2.2.2.2.1) (s.2.1.2.2.2.2.2.2.1) (s.2.1.2.2.2.2.2.2.2.1) (s.2.1.2.2.2.2.2.2.2.2.1) (s.2.1.2.2.2.2.2.2.2.2.2.1) (s.2.1.2.2.2.2.2.2.2.2.2.2.1) (s.2.2.1) (s.2.2.2.1) (s.2.2.2.2.1)
theorem Zw (s : bF) (Q : Sum bF aS → Prop) : wps te Ck az 1000 (bM (al Try.f93) 0) (pY.inj s) (dm pY Of (Q : Sum pY.T aS → Prop)) = (pZ s).wpR Q := by kernel_rfl
def vu (g0_0 : bF → gU) (s : bF) : OT aS := (.ok ⟨(.exit 0, mF), g0_0 s⟩)
def mE : aq := ⟨[.val true .elem], [], false⟩
def GN : SV → Option aq := fun _ => some mE
def KB (ok0 : bF → Bool) (g0_0 : bF → gU) (a0 : (ag × (Int × (UInt64 × (UInt64 × ag))))) (a1 : ag) (a2 : ag) : OT fL.Y :=
  let z0 : (PUnit × PUnit × PUnit × PUnit × ag × Int × PUnit) × (UInt64 × UInt64 × UInt64 × UInt64 × Int × UInt64 × UInt64 × UInt64 × UInt64 × UInt64 × UInt64 × PUnit) × List UInt64 × List UInt64 × List UInt64 × PUnit := (((), (), (), (), a2, (0 : Int), ()), (a0.fst.w0, a0.fst.w1, a0.fst.w2, a0.fst.w3, a0.snd.fst, a0.snd.snd.fst, a0.snd.snd.snd.fst, a0.snd.snd.snd.snd.w0, a0.snd.snd.snd.snd.w1, a0.snd.snd.snd.snd.w2, a0.snd.snd.snd.snd.w3, ()), [a1.w0, a1.w1, a1.w2, a1.w3], [(0 : UInt64), (0 : UInt64), (0 : UInt64), (0 : UInt64)], [(0 : UInt64), (0 : UInt64), (0 : UInt64), (0 : UInt64), (0 : UInt64), (0 : UInt64)], ())
  let z1 := (g0_0 z0).snd
  let z2 := z1.snd
  let z3 := z2.snd.fst
  let z4 : Nat := List.length z3
  let z5 := z2.fst
  let z6 : Nat := List.length z5
  let z7 : Bool := decide ((4 / 1 : Nat) + 0 ≤ z6)
  let z8 := z1.fst
  let z9 := z8.snd
  let z10 := z9.snd
  let z11 : ag × Bool := nu { w0 := List.getD z3 0 0, w1 := List.getD z3 1 0, w2 := List.getD z3 2 0, w3 := List.getD z3 3 0 } { w0 := z8.fst, w1 := z9.fst, w2 := z10.fst, w3 := z10.snd.fst }
  let z12 := z11.fst
  let z13 : List UInt64 := List.set (List.set (List.set (List.set z5 0 z12.w0) 1 z12.w1) 2 z12.w2) 3 z12.w3
  let z14 : Bool := decide (4 ≤ List.length z13)
  let z15 : ag := { w0 := List.getD z13 0 0, w1 := List.getD z13 1 0, w2 := List.getD z13 2 0, w3 := List.getD z13 3 0 }
  let z16 : List UInt64 := lay z5 z3 4 (0 : UInt64)
  (gd [ok0 z0, decide (6 ≤ z4) && true, decide (4 ≤ z4), decide (4 < z4)] (.br (!List.getD z3 4 0 == (0 : UInt64))
  (gd [z7, z14] (.ok ⟨mE, ((z15, ()), ())⟩))
  (.br (!z11.snd)
    (gd [z7, z14] (.ok ⟨mE, ((z15, ()), ())⟩))
    (gd [decide ((4 / 1 : Nat) + 0 ≤ z6), decide (4 ≤ List.length z16)] (.ok ⟨mE, (({ w0 := List.getD z16 0 0, w1 := List.getD z16 1 0, w2 := List.getD z16 2 0, w3 := List.getD z16 3 0 }, ()), ())⟩)))))
theorem adp (ok0 : bF → Bool) (g0_0 : bF → gU) (x : Br) (Q : fL.Y → Prop) : wpf te Ck (bK 0 (dZ pY 0 ok0 (vu g0_0)) az) 1000 Try.f93 (fL.inp.inj x).tm (fL.inp.inj x).hp (fnK fL GN Q) (fun _ _ => False) = (KB ok0 g0_0 (x.1.1) (x.1.2.1) (x.1.2.2.1)).wpR Q := by kernel_rfl
theorem Qp (ok0 : bF → Bool) (g0_0 : bF → gU) (h0 : ∀ s : bF, ok0 s = true → ∃ m e, aB (pZ) m s = some e ∧ (vu g0_0 s).run = some e) (pre : Br → Bool) (F : Br → OT fL.Y) (hF : ∀ (x : Br) oy, pre x = true → (F x).run = some oy → (KB ok0 g0_0 (x.1.1) (x.1.2.1) (x.1.2.2.1)).run = some oy) : ab Try.prog 93 (fL.aE pre F) :=
  aC ao rc Cj (f := 93) (fn := Try.f93) (c := al Try.f93) (by kernel_rfl) (by kernel_rfl) (by kernel_rfl) (S := fL) (k := 0) (by kernel_rfl) (fun R hR => (aL (c := (al Try.f93)) (by kernel_rfl) (id := 0) (by kernel_rfl) (bJ ao rc Cj (sh := pY) hR (xs := Of) (aI (by kernel_rfl) (by kernel_rfl) hR) bk ae (n := 1000) (T := pZ) (fun s Q => Zw s Q) (ok := ok0) (f := vu g0_0) h0) ae)) (n := 1000) (sel := GN) (fun v o h => by cases h; rfl) (pre := pre) (F := F) (T := fun x => KB ok0 g0_0 (x.1.1) (x.1.2.1) (x.1.2.2.1)) (fun x Q => adp ok0 g0_0 x Q) hF
def fJ (n : Ic) : Bool := decide (n = cI 2) || decide (n = cI 3)
theorem eQ {n : Ic} (h : fJ n = true) : n = cI 2 ∨ n = cI 3 := by
  simpa [fJ] using h
def YS (n : Ic) : Nat := if n.2.2.2.1 == 11037532056220336127 then 15353493766103302224812374511606760489073247795810767472367693728416386214313 else 14238205147845459960272226733876560297615832660064601289232577236146637664127
theorem Vh {n : Ic} (h : fJ n = true) : (n.1.nat * n.2.2.2.1.toNat + 1) % 18446744073709551616 = 0 := by
  rcases eQ h with rfl | rfl <;> decide +kernel
theorem Vi {n : Ic} (h : fJ n = true) : 115792089237316195423570985008687907853269984665640564039457584007913129639936 * YS n % n.1.nat = 1 % n.1.nat := by
  rcases eQ h with rfl | rfl <;> decide +kernel
theorem Vf {n : Ic} (h : fJ n = true) : 2 * n.1.nat ≤ 115792089237316195423570985008687907853269984665640564039457584007913129639936 := by
  rcases eQ h with rfl | rfl <;> decide +kernel
theorem af2 (n : Nat) : tab (l6 n) 6 0 = l6 n := rfl
theorem Zi {n : Nat} (h : n / 18446744073709551616 / 18446744073709551616 / 18446744073709551616 / 18446744073709551616 / 18446744073709551616 / 18446744073709551616 = 0) :
    [UInt64.ofNat (n / 18446744073709551616), UInt64.ofNat (n / 18446744073709551616 / 18446744073709551616), UInt64.ofNat (n / 18446744073709551616 / 18446744073709551616 / 18446744073709551616),
      UInt64.ofNat (n / 18446744073709551616 / 18446744073709551616 / 18446744073709551616 / 18446744073709551616), UInt64.ofNat (n / 18446744073709551616 / 18446744073709551616 / 18446744073709551616 / 18446744073709551616 / 18446744073709551616), 0] = l6 (n / 18446744073709551616) := by
  unfold l6
  rw [h]
  rfl
theorem af3 (a b : Nat) : lay (l6 a) (l6 b) 6 0 = l6 b := Gh rfl rfl
theorem Xf (U : Nat) (neg : UInt64) : (List.getD (l6 U) 0 0 * neg).toNat = U * neg.toNat % 18446744073709551616 := by
  show (UInt64.ofNat U * neg).toNat = _
  rw [UInt64.toNat_mul, UInt64.toNat_ofNat', Nat.mul_mod, Nat.mod_mod, ← Nat.mul_mod]
theorem Qo (b : ag) (k : Nat) (hk : k < 4) (x0 x1 x2 x3 x5 x6 x7 x8 x9 x10 : UInt64) (x4 : Int) (c1 c2 : List UInt64) (T : Nat) (h1 : c1.length = 4) (hT : T < 2 * (ag.mk x0 x1 x2 x3).nat)
    (hn : ((ag.mk x0 x1 x2 x3).nat * x6.toNat + 1) % 18446744073709551616 = 0) (hp : 2 * (ag.mk x0 x1 x2 x3).nat ≤ 115792089237316195423570985008687907853269984665640564039457584007913129639936) (ha : (elemOf c1).nat < (ag.mk x0 x1 x2 x3).nat) :
    (DA b (k : Int) x0 x1 x2 x3 x4 x5 x6 x7 x8 x9 x10 c1 c2 (l6 T)).run = some (.inl (((), (), (), (), b, ((k + 1 : Nat) : Int), ()), ((x0, x1, x2, x3, x4, x5, x6, x7, x8, x9, x10, ()), c1, c2, l6 (wu (ag.mk x0 x1 x2 x3).nat x6.toNat (elemOf c1).nat ((lst b).getD k 0).toNat T), ()))) := by
  have hlt := mi (b := ((lst b).getD k 0).toNat) hn hT ha (UInt64.toNat_lt _)
  have heq := mj (a := (elemOf c1).nat) (b := ((lst b).getD k 0).toNat) (t := T) hn
  have hrd : wu (ag.mk x0 x1 x2 x3).nat x6.toNat (elemOf c1).nat ((lst b).getD k 0).toNat T = (T + (elemOf c1).nat * ((lst b).getD k 0).toNat + (ag.mk x0 x1 x2 x3).nat * ((T + (elemOf c1).nat * ((lst b).getD k 0).toNat) * x6.toNat % 18446744073709551616)) / 18446744073709551616 := rfl
  generalize hU : T + (elemOf c1).nat * ((lst b).getD k 0).toNat = U at heq hrd
  generalize hV : U + (ag.mk x0 x1 x2 x3).nat * (U * x6.toNat % 18446744073709551616) = V at heq hrd
  generalize wu (ag.mk x0 x1 x2 x3).nat x6.toNat (elemOf c1).nat ((lst b).getD k 0).toNat T = S at *
  have hVU : U ≤ V := by rw [← hV]; exact Nat.le_add_right _ _
  have hz1 : lay (l6 T) (l6 (v6 (tab (l6 T) 6 0) + ag.nat { w0 := List.getD c1 0 0, w1 := List.getD c1 1 0, w2 := List.getD c1 2 0, w3 := List.getD c1 3 0 } * UInt64.toNat (List.getD [b.w0, b.w1, b.w2, b.w3] (Int.toNat (k : Int)) 0))) 6 0 = l6 U := by
    rw [af2, aeq (by omega), af3, Int.toNat_natCast]
    exact congrArg l6 hU
  have hz3 : lay (l6 U) (l6 (v6 (tab (l6 U) 6 0) + ag.nat { w0 := x0, w1 := x1, w2 := x2, w3 := x3 } * UInt64.toNat (List.getD (l6 U) 0 0 * x6))) 6 0 = l6 V := by
    rw [af2, aeq (by omega), af3, Xf, hV]
  have hsh : _ = l6 (V / 18446744073709551616) := Zi (n := V) (by omega)
  unfold DA
  simp only [hz1, hz3]
  refine (OT.ax (decide_eq_true (by omega))).trans ((aj ?_).trans ?_)
  · simp only [UT, h1, List.all_cons, List.all_nil, Bool.and_true, Bool.and_eq_true]
    exact ⟨aQ (by omega), rfl, rfl, rfl, rfl, rfl, rfl, rfl, rfl, rfl, rfl, rfl, rfl, aX (by omega)⟩
  · rw [hrd]
    exact congrArg (fun l => some (Sum.inl (((), (), (), (), b, ((k + 1 : Nat) : Int), ()), ((x0, x1, x2, x3, x4, x5, x6, x7, x8, x9, x10, ()), c1, c2, l, ())))) hsh
def We (s : bF) : ag := ⟨s.2.1.1, s.2.1.2.1, s.2.1.2.2.1, s.2.1.2.2.2.1⟩
def adV (s : bF) : UInt64 := s.2.1.2.2.2.2.2.2.1
def GO (s : bF) : Bool := decide (s.1.2.2.2.2.2.1 = 0 ∧ s.2.2.1.length = 4 ∧ s.2.2.2.2.1 = l6 0 ∧ ((We s).nat * (adV s).toNat + 1) % 18446744073709551616 = 0 ∧ 2 * (We s).nat ≤ 115792089237316195423570985008687907853269984665640564039457584007913129639936 ∧ (elemOf s.2.2.1).nat < (We s).nat)
def Dz (s : bF) : gU := (((), (), (), ()), (s.2.1, s.2.2.2.1, l6 (aeX (We s).nat (adV s).toNat (elemOf s.2.2.1).nat s.1.2.2.2.2.1), ()))
theorem Zy : ∀ s : bF, GO s = true → ∃ m e, aB pZ m s = some e ∧ (vu Dz s).run = some e := by
  rintro ⟨⟨⟨⟩, ⟨⟩, ⟨⟩, ⟨⟩, b, i, ⟨⟩⟩, ⟨⟨x0, x1, x2, x3, x4, x5, x6, x7, x8, x9, x10, ⟨⟩⟩, c1, c2, c3, ⟨⟩⟩⟩ h
  have h' := of_decide_eq_true h
  dsimp only [We, adV] at h'
  obtain ⟨rfl, h1, rfl, hn, hp, ha⟩ := h'
  have := (bt (T := pZ) (fun k T => ((((), (), (), (), b, (k : Int), ()), ((x0, x1, x2, x3, x4, x5, x6, x7, x8, x9, x10, ()), c1, c2, l6 T, ())) : bF)) (fun k T => wu (ag.mk x0 x1 x2 x3).nat x6.toNat (elemOf c1).nat ((lst b).getD k 0).toNat T)
    (fun T => (⟨(.exit 0, mF), (((), (), (), ()), ((x0, x1, x2, x3, x4, x5, x6, x7, x8, x9, x10, ()), c2, l6 T, ()))⟩ : aS)) 4 0 (fun _ T => T < 2 * (ag.mk x0 x1 x2 x3).nat) (by omega) (fun k T hk hT => ⟨?_, ?_⟩) (fun T hT => ?_)).1
  · obtain ⟨m, hm⟩ := this
    exact ⟨m, _, hm, rfl⟩
  · exact Qo b k hk x0 x1 x2 x3 x5 x6 x7 x8 x9 x10 x4 c1 c2 T h1 hT hn hp ha
  · exact mi hn hT ha (UInt64.toNat_lt _)
  · exact OT.ay (decide_eq_false (by dsimp only; omega))
def lf (x : Br) : Bool := fJ x.1.1 && Nat.blt x.1.2.1.nat x.1.1.1.nat
def Vp (x : Br) : OT fL.Y := .ok ⟨mE, ((ofN (x.1.2.1.nat * x.1.2.2.1.nat * YS x.1.1 % x.1.1.1.nat), ()), ())⟩
theorem Zx : ab Try.prog 93 (fL.aE lf Vp) := Qp GO Dz Zy _ _ fun x oy hp ho => by
  rw [← ho]
  clear ho
  obtain ⟨⟨⟨⟨m0, m1, m2, m3⟩, ad, sm, neg, sq⟩, a, b, ⟨⟩⟩, ⟨⟩⟩ := x
  have hp' : (fJ (⟨m0, m1, m2, m3⟩, ad, sm, neg, sq) && Nat.blt a.nat (ag.mk m0 m1 m2 m3).nat) = true := hp
  rw [Bool.and_eq_true] at hp'
  obtain ⟨hg, ha⟩ := hp'
  have ha := cK ha
  have hn : ((ag.mk m0 m1 m2 m3).nat * neg.toNat + 1) % 18446744073709551616 = 0 := Vh hg
  have h2 : 2 * (ag.mk m0 m1 m2 m3).nat ≤ 115792089237316195423570985008687907853269984665640564039457584007913129639936 := Vf hg
  have hr : 115792089237316195423570985008687907853269984665640564039457584007913129639936 * YS (⟨m0, m1, m2, m3⟩, ad, sm, neg, sq) % (ag.mk m0 m1 m2 m3).nat = 1 % (ag.mk m0 m1 m2 m3).nat := Vi hg
  have hM := Za (a := a.nat) (b := b) hn hr
  have hL := adf (b := b) hn ha
  refine (aj ?_).trans ?_
  · simp only [List.all_cons, List.all_nil, Bool.and_true, Bool.and_eq_true]
    exact ⟨decide_eq_true ⟨rfl, rfl, rfl, hn, h2, ha⟩, rfl, rfl, rfl⟩
  · show _ = (OT.ok ⟨mE, ((ofN (a.nat * b.nat * YS (⟨m0, m1, m2, m3⟩, ad, sm, neg, sq) % (ag.mk m0 m1 m2 m3).nat), ()), ())⟩ : OT fL.Y).run
    rw [← hM, adg hL]
    have e0 : Dz (((), (), (), (), b, 0, ()), ((m0, m1, m2, m3, ad, sm, neg, sq.w0, sq.w1, sq.w2, sq.w3, ()), [a.w0, a.w1, a.w2, a.w3], [0, 0, 0, 0], [0, 0, 0, 0, 0, 0], ())) = (((), (), (), ()), ((m0, m1, m2, m3, ad, sm, neg, sq.w0, sq.w1, sq.w2, sq.w3, ()), [0, 0, 0, 0], l6 (aeX (ag.mk m0 m1 m2 m3).nat neg.toNat a.nat b), ())) := rfl
    dsimp only
    rw [e0]
    clear e0 hM
    generalize aeX (ag.mk m0 m1 m2 m3).nat neg.toNat a.nat b = M at *
    have e4 : List.getD (l6 M) 4 0 = 0 := by
      show UInt64.ofNat (M / 18446744073709551616 / 18446744073709551616 / 18446744073709551616 / 18446744073709551616) = 0
      rw [show M / 18446744073709551616 / 18446744073709551616 / 18446744073709551616 / 18446744073709551616 = 0 by omega]
      rfl
    refine (OT.ay (by rw [e4]; rfl)).trans ?_
    have eN : (ofN M).nat = M := iQ (by omega)
    by_cases hlt : M < (ag.mk m0 m1 m2 m3).nat
    · rw [if_pos hlt]
      refine (OT.ay ?_).trans ((aj rfl).trans rfl)
      show (!Nat.blt (ofN M).nat (ag.mk m0 m1 m2 m3).nat) = false
      rw [eN, show Nat.blt M (ag.mk m0 m1 m2 m3).nat = true from Nat.ble_eq_true_of_le hlt]
      rfl
    · rw [if_neg hlt]
      refine (OT.ax ?_).trans ((aj rfl).trans ?_)
      · show (!Nat.blt (ofN M).nat (ag.mk m0 m1 m2 m3).nat) = true
        rw [eN]
        cases hb : Nat.blt M (ag.mk m0 m1 m2 m3).nat
        · rfl
        · exact absurd (cK hb) hlt
      · have ew : (nu (ofN M) (ag.mk m0 m1 m2 m3)).1 = ofN (M - (ag.mk m0 m1 m2 m3).nat) := by
          apply ob
          rw [o6 (by omega), eN, iQ (by omega)]
        rw [← ew]
        rfl
def sM : bO := (fL.aE lf Vp)
theorem KA : ab Try.prog 93 sM := Zx
theorem Kz : aD sM := aA
def zl : Env := av 93 sM Ck
theorem tH : aN Try.prog zl := ah KA rc
theorem uQ : ar zl := ac Kz zy
theorem LN : aY Try.prog te zl := aG follows ao tH uQ
def fM : ak := ⟨[.val true (.prod .elem (.prod .int (.prod .u64 (.prod .u64 .elem)))), .val true .elem, .val true .elem], [], true, 0, false⟩
abbrev Bv : Type := (((ag × (Int × (UInt64 × (UInt64 × ag))))) × (ag) × (ag) × Unit) × (Unit)
def j6 : aq := ⟨[.val true .elem], [], false⟩
def G0 : SV → Option aq := fun _ => some j6
def oh (a0 : (ag × (Int × (UInt64 × (UInt64 × ag))))) (a1 : ag) (a2 : ag) : OT fM.Y :=
  let z0 : Bool := !a0.snd.snd.fst == (0 : UInt64)
  let z1 : Nat := ag.nat a0.fst
  let z2 : ag := ofN (ag.nat a1 % z1)
  let z3 : ag := ofN (ag.nat a2 % z1)
  let z4 : Nat := YS a0
  let z5 : ag := ofN (ag.nat z2 * ag.nat z3 * z4 % z1)
  (gd [iB ((a0, a1, ()), ()), iB ((a0, a2, ()), ())] (.br (z0)
  (gd [z0] (.ok ⟨j6, (({ w0 := z2.w0 * z3.w0 % a0.snd.snd.fst, w1 := 0, w2 := 0, w3 := 0 }, ()), ())⟩))
  (gd [lf ((a0, z2, z3, ()), ()), lf ((a0, z5, a0.snd.snd.snd.snd, ()), ())] (.ok ⟨j6, ((ofN (ag.nat z5 * ag.nat a0.snd.snd.snd.snd * z4 % z1), ()), ())⟩))))
theorem adA (x : Bv) (Q : fM.Y → Prop) : wpf te zl az 1000 Try.f78 (fM.inp.inj x).tm (fM.inp.inj x).hp (fnK fM G0 Q) (fun _ _ => False) = (oh (x.1.1) (x.1.2.1) (x.1.2.2.1)).wpR Q := by kernel_rfl
theorem QB (pre : Bv → Bool) (F : Bv → OT fM.Y) (hF : ∀ (x : Bv) oy, pre x = true → (F x).run = some oy → (oh (x.1.1) (x.1.2.1) (x.1.2.2.1)).run = some oy) : ab Try.prog 78 (fM.aE pre F) :=
  aC ao tH LN (f := 78) (fn := Try.f78) (c := al Try.f78) (by kernel_rfl) (by kernel_rfl) (by kernel_rfl) (S := fM) (k := 0) (by kernel_rfl) (fun R hR => ae) (n := 1000) (sel := G0) (fun v o h => by cases h; rfl) (pre := pre) (F := F) (T := fun x => oh (x.1.1) (x.1.2.1) (x.1.2.2.1)) (fun x Q => adA x Q) hF
theorem UF {p A B r s : Nat} (h : r * s * r % p = 1 % p) : A * B * r % p * s * r % p = A * B % p := by
  have e : A * B * r * (s * r) = A * B * (r * s * r) := by
    rw [Nat.mul_assoc (A * B) r (s * r), Nat.mul_assoc r s r]
  rw [Nat.mul_assoc, Nat.mul_mod, Nat.mod_mod, ← Nat.mul_mod, e, Nat.mul_mod, h, ← Nat.mul_mod, Nat.mul_one]
theorem Zs {n : Ic} (h : fJ n = true) : YS n * n.2.2.2.2.nat * YS n % n.1.nat = 1 % n.1.nat := by
  rcases eQ h with rfl | rfl <;> decide +kernel
theorem ae4 : fJ (cI 2) = true := by decide +kernel
theorem ae3 : fJ (cI 3) = true := by decide +kernel
theorem Vg {n : Ic} (h : fJ n = true) : u7 n = true := by
  rcases eQ h with rfl | rfl <;> decide +kernel
theorem ul {n : Ic} {a b : ag} {m : UInt64} (hn0 : u7 n = true) (h1 : n.1 = ⟨m, 0, 0, 0⟩) (h2 : n.2.2.1 = m) (hs : dz m = true) : (oh n a b).run = some ⟨j6, ((pL n.1.nat a b, ()), ())⟩ := by
  have hm := gD hs
  have hb' : m.toNat ≤ 16521217 := by rcases cD hs with rfl | rfl <;> decide
  have hn : n.1.nat = m.toNat := by rw [h1]; show m.toNat + _ * (0 + _ * (0 + _ * 0)) = _; omega
  have hz : (!(n.2.2.1 == 0)) = true := by
    rw [h2]
    rcases cD hs with rfl | rfl <;> rfl
  have ha := Nat.mod_lt a.nat hm
  have hb := Nat.mod_lt b.nat hm
  have hab : a.nat % m.toNat * (b.nat % m.toNat) < 18446744073709551616 := by
    have : a.nat % m.toNat * (b.nat % m.toNat) ≤ 16521217 * 16521217 := Nat.mul_le_mul (by omega) (by omega)
    omega
  have e : UInt64.ofNat (a.nat % m.toNat) * UInt64.ofNat (b.nat % m.toNat) % m = UInt64.ofNat (a.nat * b.nat % m.toNat) := by
    have hlt := Nat.mod_lt (a.nat * b.nat) hm
    rw [← UInt64.toNat_inj, UInt64.toNat_mod, UInt64.toNat_mul, UInt64.toNat_ofNat', UInt64.toNat_ofNat', UInt64.toNat_ofNat', Nat.mod_eq_of_lt (a := a.nat % m.toNat) (by omega), Nat.mod_eq_of_lt (a := b.nat % m.toNat) (by omega),
      Nat.mod_eq_of_lt (a := a.nat % m.toNat * (b.nat % m.toNat)) (by omega), Nat.mod_eq_of_lt (a := a.nat * b.nat % m.toNat) (by omega), ← Nat.mul_mod]
  have hlt := Nat.mod_lt (a.nat * b.nat) hm
  unfold oh
  refine (aj ?_).trans ((OT.ax hz).trans ((aj ?_).trans ?_))
  · simp only [List.all_cons, List.all_nil, Bool.and_true, Bool.and_eq_true]
    exact ⟨hn0, hn0⟩
  · simp only [hz, List.all_cons, List.all_nil, Bool.and_true]
  · unfold pL
    rw [hn, kT (n := a.nat * b.nat % m.toNat) (by omega), ← e]
    show some (⟨j6, ((⟨UInt64.ofNat (a.nat % m.toNat) * UInt64.ofNat (b.nat % m.toNat) % n.2.2.1, 0, 0, 0⟩, ()), ())⟩ : fM.Y) = _
    rw [h2]
theorem xN {n : Ic} {a b : ag} (h : fJ n = true) (h2 : n.2.2.1 = 0) : (oh n a b).run = some ⟨j6, ((pL n.1.nat a b, ()), ())⟩ := by
  have hn0 := Vg h
  have hp := wX hn0
  have hz : (!(n.2.2.1 == 0)) = false := by rw [h2]; rfl
  have e1 : (ofN (a.nat % n.1.nat)).nat = a.nat % n.1.nat := jT hp
  have e2 : (ofN (b.nat % n.1.nat)).nat = b.nat % n.1.nat := jT hp
  have e3 : (ofN (a.nat % n.1.nat * (b.nat % n.1.nat) * YS n % n.1.nat)).nat = a.nat % n.1.nat * (b.nat % n.1.nat) * YS n % n.1.nat := jT hp
  unfold oh
  refine (aj ?_).trans ((OT.ay hz).trans ((aj ?_).trans ?_))
  · simp only [List.all_cons, List.all_nil, Bool.and_true, Bool.and_eq_true]
    exact ⟨hn0, hn0⟩
  · simp only [List.all_cons, List.all_nil, Bool.and_true, Bool.and_eq_true, lf, h, true_and, e1, e2, e3]
    exact ⟨Nat.ble_eq_true_of_le (Nat.mod_lt _ hp.1), Nat.ble_eq_true_of_le (Nat.mod_lt _ hp.1)⟩
  · simp only [e1, e2, e3, UF (Zs h), pL, ← Nat.mul_mod]
    rfl
def xM (x : Bv) : Bool := u7 x.1.1
def VB (x : Bv) : OT fM.Y := .ok ⟨j6, ((pL x.1.1.1.nat x.1.2.1 x.1.2.2.1, ()), ())⟩
theorem ZC : ab Try.prog 78 (fM.aE xM VB) := QB _ _ fun x oy hp ho => by
  rw [← ho]
  clear ho
  obtain ⟨⟨n, a, b, ⟨⟩⟩, ⟨⟩⟩ := x
  have hp' : u7 n = true := hp
  rcases oa hp' with rfl | rfl | rfl | rfl
  · exact ul hp' (m := 16513537) rfl rfl rfl
  · exact ul hp' (m := 16521217) rfl rfl rfl
  · exact xN ae4 rfl
  · exact xN ae3 rfl
def sN : bO := (fM.aE xM VB)
theorem KD : ab Try.prog 78 sN := ZC
theorem KC : aD sN := aA
def zq : Env := av 78 sN zl
theorem tI : aN Try.prog zq := ah KD tH
theorem uR : ar zq := ac KC uQ
theorem LO : aY Try.prog te zq := aG follows ao tI uR
def lj : ak := ⟨[.val false .int, .val true .elem, .val true .elem], [], true, 0, false⟩
abbrev QA : Type := ((Int) × (ag) × (ag) × Unit) × (Unit)
def xL : aq := ⟨[.val true .elem], [], false⟩
def Oj : SV → Option aq := fun _ => some xL
def VA (a0 : Int) (a1 : ag) (a2 : ag) : OT lj.Y :=
  let z0 : ag × Int × UInt64 × UInt64 × ag := cI (Int.toNat a0)
  (.br (aw a0)
  (gd [xM ((z0, a1, a2, ()), ())] (.ok ⟨xL, ((pL (ag.nat z0.fst) a1 a2, ()), ())⟩))
  (.ok ⟨xL, (({ w0 := 0, w1 := 0, w2 := 0, w3 := 0 }, ()), ())⟩))
theorem afa (x : QA) (Q : lj.Y → Prop) : wpf te zq az 1000 Try.f63 (lj.inp.inj x).tm (lj.inp.inj x).hp (fnK lj Oj Q) (fun _ _ => False) = (VA (x.1.1) (x.1.2.1) (x.1.2.2.1)).wpR Q := by kernel_rfl
theorem Vz (pre : QA → Bool) (F : QA → OT lj.Y) (hF : ∀ (x : QA) oy, pre x = true → (F x).run = some oy → (VA (x.1.1) (x.1.2.1) (x.1.2.2.1)).run = some oy) : ab Try.prog 63 (lj.aE pre F) :=
  aC ao tI LO (f := 63) (fn := Try.f63) (c := al Try.f63) (by kernel_rfl) (by kernel_rfl) (by kernel_rfl) (S := lj) (k := 0) (by kernel_rfl) (fun R hR => ae) (n := 1000) (sel := Oj) (fun v o h => by cases h; rfl) (pre := pre) (F := F) (T := fun x => VA (x.1.1) (x.1.2.1) (x.1.2.2.1)) (fun x Q => afa x Q) hF
def Ok (_ : QA) : Bool := true
def aaT (x : QA) : OT lj.Y := .br (aw x.1.1) (.ok ⟨xL, ((pL (pS x.1.1) x.1.2.1 x.1.2.2.1, ()), ())⟩) (.ok ⟨xL, ((⟨0, 0, 0, 0⟩, ()), ())⟩)
theorem adz : ab Try.prog 63 (lj.aE Ok aaT) := Vz _ _ fun x oy hp ho => by
  rw [← ho]
  clear ho
  obtain ⟨⟨s, a, b, ⟨⟩⟩, ⟨⟩⟩ := x
  cases hs : aw s
  · exact (OT.ay hs).trans (OT.ay (b := aw s) hs).symm
  · refine (OT.ax hs).trans ((aj ?_).trans (OT.ax (b := aw s) hs).symm)
    simp only [List.all_cons, List.all_nil, Bool.and_true]
    exact vq hs
def xK : bO := (lj.aE Ok aaT)
theorem Qz : ab Try.prog 63 xK := adz
theorem Qy : aD xK := aA
def Iy : Env := av 63 xK zq
theorem zo : aN Try.prog Iy := ah Qz tI
theorem zp : ar Iy := ac Qy uR
theorem Rz : aY Try.prog te Iy := aG follows ao zo zp
def gW : ak := ⟨[.val true .elem], [], true, 0, false⟩
abbrev Bx : Type := ((ag) × Unit) × (Unit)
def DK : aq := ⟨[.val true .elem], [], false⟩
def G3 : SV → Option aq := fun _ => some DK
def KH (a0 : ag) : OT gW.Y :=
  (.ok ⟨DK, (({ w0 := aP a0.w0 (1 : Int) ||| bC a0.w1 (63 : Int), w1 := aP a0.w1 (1 : Int) ||| bC a0.w2 (63 : Int), w2 := aP a0.w2 (1 : Int) ||| bC a0.w3 (63 : Int), w3 := aP a0.w3 (1 : Int) }, ()), ())⟩)
theorem adC (x : Bx) (Q : gW.Y → Prop) : wpf te Iy az 1000 Try.f89 (gW.inp.inj x).tm (gW.inp.inj x).hp (fnK gW G3 Q) (fun _ _ => False) = (KH (x.1.1)).wpR Q := by kernel_rfl
theorem QF (pre : Bx → Bool) (F : Bx → OT gW.Y) (hF : ∀ (x : Bx) oy, pre x = true → (F x).run = some oy → (KH (x.1.1)).run = some oy) : ab Try.prog 89 (gW.aE pre F) :=
  aC ao zo Rz (f := 89) (fn := Try.f89) (c := al Try.f89) (by kernel_rfl) (by kernel_rfl) (by kernel_rfl) (S := gW) (k := 0) (by kernel_rfl) (fun R hR => ae) (n := 1000) (sel := G3) (fun v o h => by cases h; rfl) (pre := pre) (F := F) (T := fun x => KH (x.1.1)) (fun x Q => adC x Q) hF
theorem xq (x y : UInt64) : (aP x 1 ||| bC y 63).toNat = x.toNat / 2 + 9223372036854775808 * (y.toNat % 2) := by
  have hx := x.toNat_lt
  have e1 : (aP x 1).toNat = x.toNat / 2 := dp x 1 (by omega)
  have e2 : (bC y 63).toNat = 9223372036854775808 * (y.toNat % 2) := by
    have := gE y 63 (by omega)
    have e : (bC y 63).toNat = y.toNat * 2 ^ 63 % 2 ^ 64 := this
    rw [e]
    omega
  rw [UInt64.toNat_or, e1, e2, Nat.or_comm]
  have := Nat.two_pow_add_eq_or_of_lt (i := 63) (b := x.toNat / 2) (by omega) (y.toNat % 2)
  rw [Nat.add_comm]
  exact this.symm
theorem xr (x N : Nat) : (x + 18446744073709551616 * N) / 2 = (x / 2 + 9223372036854775808 * (N % 2)) + 18446744073709551616 * (N / 2) := by
  omega
theorem UL (y N : Nat) : (y + 18446744073709551616 * N) % 2 = y % 2 := by
  omega
def ae2 (a : ag) : ag := ofN (a.nat / 2)
theorem Zr (a : ag) : ae2 a = ⟨aP a.w0 1 ||| bC a.w1 63, aP a.w1 1 ||| bC a.w2 63, aP a.w2 1 ||| bC a.w3 63, aP a.w3 1⟩ := by
  refine Ux (k := 0) ?_
  rw [xq, xq, xq, Nat.mul_zero, Nat.add_zero]
  unfold Sx.ag.nat
  have e3 : (aP a.w3 1).toNat = a.w3.toNat / 2 := dp a.w3 1 (by omega)
  rw [xr, UL, xr, UL, xr, e3]
def G4 (_ : Bx) : Bool := true
def KI (x : Bx) : OT gW.Y := .ok ⟨DK, ((ae2 x.1.1, ()), ())⟩
theorem ZD : ab Try.prog 89 (gW.aE G4 KI) := QF _ _ fun x oy hp ho => by
  rw [← ho]
  clear ho
  obtain ⟨⟨a, ⟨⟩⟩, ⟨⟩⟩ := x
  simp only [KI, Zr]
  rfl
def sO : bO := (gW.aE G4 KI)
theorem KG : ab Try.prog 89 sO := ZD
theorem KF : aD sO := aA
def zu : Env := av 89 sO Iy
theorem tK : aN Try.prog zu := ah KG zo
theorem uS : ar zu := ac KF zp
theorem LP : aY Try.prog te zu := aG follows ao tK uS
end Go.Proofs.Ytohjofabochgfaa

namespace Go.Proofs.Ytohjofabochgfaa
open Sx Go
def Xb (k : ag) : Bool := (k.w0 == 0 && (k.w1 == 0 && (k.w2 == 0 && (k.w3 == 0 && true))))
end Go.Proofs.Ytohjofabochgfaa

namespace Go.Proofs.Ytohjofabochgfaa
open Sx Go
set_option maxRecDepth 100000
def eW : ak := ⟨[.val false .int], [], true, 0, false⟩
abbrev sV : Type := ((Int) × Unit) × (Unit)
def eV : aq := ⟨[.val true .elem, .val false .bool], [], false⟩
def BL : SV → Option aq := fun _ => some eV
def D2 (a0 : Int) : OT eW.Y :=
  let z0 : ag := { w0 := 5, w1 := 0, w2 := 0, w3 := 0 }
  let z1 : ag := { w0 := 0, w1 := 0, w2 := 0, w3 := 0 }
  (.br (a0 == (0 : Int))
  (.ok ⟨eV, (({ w0 := 23, w1 := 0, w2 := 0, w3 := 0 }, (true, ())), ())⟩)
  (.br (a0 == (1 : Int))
    (.ok ⟨eV, (({ w0 := 21, w1 := 0, w2 := 0, w3 := 0 }, (true, ())), ())⟩)
    (.br (a0 == (2 : Int))
      (.br (a0 == (2 : Int))
        (.ok ⟨eV, ((z0, (true, ())), ())⟩)
        (.ok ⟨eV, ((z1, (false, ())), ())⟩))
      (.br (a0 == (3 : Int))
        (.ok ⟨eV, ((z0, (true, ())), ())⟩)
        (.ok ⟨eV, ((z1, (false, ())), ())⟩)))))
theorem ZO (x : sV) (Q : eW.Y → Prop) : wpf te zu az 1000 Try.f59 (eW.inp.inj x).tm (eW.inp.inj x).hp (fnK eW BL Q) (fun _ _ => False) = (D2 (x.1.1)).wpR Q := by kernel_rfl
theorem K0 (pre : sV → Bool) (F : sV → OT eW.Y) (hF : ∀ (x : sV) oy, pre x = true → (F x).run = some oy → (D2 (x.1.1)).run = some oy) : ab Try.prog 59 (eW.aE pre F) :=
  aC ao tK LP (f := 59) (fn := Try.f59) (c := al Try.f59) (by kernel_rfl) (by kernel_rfl) (by kernel_rfl) (S := eW) (k := 0) (by kernel_rfl) (fun R hR => ae) (n := 1000) (sel := BL) (fun v o h => by cases h; rfl) (pre := pre) (F := F) (T := fun x => D2 (x.1.1)) (fun x Q => ZO x Q) hF
def bOf : Nat → ag
  | 0 => ⟨23, 0, 0, 0⟩
  | 1 => ⟨21, 0, 0, 0⟩
  | _ => ⟨5, 0, 0, 0⟩
abbrev bS (s : Int) : ag := bOf s.toNat
def BM (_ : sV) : Bool := true
def OG (x : sV) : OT eW.Y := .br (aw x.1.1) (.ok ⟨eV, ((bS x.1.1, (true, ())), ())⟩) (.ok ⟨eV, ((⟨0, 0, 0, 0⟩, (false, ())), ())⟩)
theorem Wc : ab Try.prog 59 (eW.aE BM OG) := K0 _ _ fun x oy _ ho => by
  rw [← ho]
  clear ho
  obtain ⟨⟨s, ⟨⟩⟩, ⟨⟩⟩ := x
  cases hs : aw s
  · obtain ⟨h0, h1, h2, h3⟩ := mg hs
    exact (OT.ay h0).trans ((OT.ay h1).trans ((OT.ay h2).trans ((OT.ay h3).trans (OT.ay (b := aw s) hs).symm)))
  · rcases b6 hs with h | h | h | h
    all_goals
      have h : s = _ := h
      subst h
      rfl
def oo : bO := (eW.aE BM OG)
theorem Hu : ab Try.prog 59 oo := Wc
theorem Ht : aD oo := aA
def rh : Env := av 59 oo zu
theorem oR : aN Try.prog rh := ah Hu tK
theorem rg : ar rh := ac Ht uS
theorem IC : aY Try.prog te rh := aG follows ao oR rg
def lz : ak := ⟨[], [], true, 0, false⟩
abbrev Q2 : Type := (Unit) × (Unit)
def KU : aq := ⟨[.val true (.prod .elem (.prod .elem .bool))], [], false⟩
def OC : SV → Option aq := fun _ => some KU
def V7 : OT lz.Y :=
  let z0 : ag := { w0 := 0, w1 := 0, w2 := 0, w3 := 0 }
  (.ok ⟨KU, (((z0, z0, true), ()), ())⟩)
theorem afk (x : Q2) (Q : lz.Y → Prop) : wpf te rh az 1000 Try.f60 (lz.inp.inj x).tm (lz.inp.inj x).hp (fnK lz OC Q) (fun _ _ => False) = (V7).wpR Q := by kernel_rfl
theorem V6 (pre : Q2 → Bool) (F : Q2 → OT lz.Y) (hF : ∀ (x : Q2) oy, pre x = true → (F x).run = some oy → (V7).run = some oy) : ab Try.prog 60 (lz.aE pre F) :=
  aC ao oR IC (f := 60) (fn := Try.f60) (c := al Try.f60) (by kernel_rfl) (by kernel_rfl) (by kernel_rfl) (S := lz) (k := 0) (by kernel_rfl) (fun R hR => ae) (n := 1000) (sel := OC) (fun v o h => by cases h; rfl) (pre := pre) (F := F) (T := fun x => V7) (fun x Q => afk x Q) hF
def aaM : ag × (ag × Bool) := (⟨0, 0, 0, 0⟩, ⟨0, 0, 0, 0⟩, true)
def OD (_ : Q2) : Bool := true
def aaW (_ : Q2) : OT lz.Y := .ok ⟨KU, ((aaM, ()), ())⟩
theorem adT : ab Try.prog 60 (lz.aE OD aaW) := V6 _ _ fun x oy _ ho => ho
def yi : bO := (lz.aE OD aaW)
theorem Q1 : ab Try.prog 60 yi := adT
theorem Q0 : aD yi := aA
def IA : Env := av 60 yi rh
theorem zz : aN Try.prog IA := ah Q1 oR
theorem zA : ar IA := ac Q0 rg
theorem RA : aY Try.prog te IA := aG follows ao zz zA
def gY : ak := ⟨[.val false .int, .val true .elem, .val true .elem], [], true, 0, false⟩
abbrev BK : Type := ((Int) × (ag) × (ag) × Unit) × (Unit)
def fw : aq := ⟨[.val true .elem], [], false⟩
def Hs : SV → Option aq := fun _ => some fw
def KZ (a0 : Int) (a1 : ag) (a2 : ag) : OT gY.Y :=
  let z0 : Bool := aw a0
  let z1 : Nat := pS a0
  let z2 : ag := { w0 := 0, w1 := 0, w2 := 0, w3 := 0 }
  let z3 : ag := th z1 z2 a2
  (.br (z0)
  (.br (z0)
    (.br (z0)
      (.ok ⟨fw, ((th z1 (pL z1 (pL z1 a1 a1) a1) a2, ()), ())⟩)
      (.ok ⟨fw, ((z2, ()), ())⟩))
    (.br (z0)
      (.ok ⟨fw, ((z3, ()), ())⟩)
      (.ok ⟨fw, ((z2, ()), ())⟩)))
  (.br (z0)
    (.br (z0)
      (.ok ⟨fw, ((th z1 (pL z1 z2 a1) a2, ()), ())⟩)
      (.ok ⟨fw, ((z2, ()), ())⟩))
    (.br (z0)
      (.ok ⟨fw, ((z3, ()), ())⟩)
      (.ok ⟨fw, ((z2, ()), ())⟩))))
theorem adU (x : BK) (Q : gY.Y → Prop) : wpf te IA az 1000 Try.f64 (gY.inp.inj x).tm (gY.inp.inj x).hp (fnK gY Hs Q) (fun _ _ => False) = (KZ (x.1.1) (x.1.2.1) (x.1.2.2.1)).wpR Q := by kernel_rfl
theorem Q4 (pre : BK → Bool) (F : BK → OT gY.Y) (hF : ∀ (x : BK) oy, pre x = true → (F x).run = some oy → (KZ (x.1.1) (x.1.2.1) (x.1.2.2.1)).run = some oy) : ab Try.prog 64 (gY.aE pre F) :=
  aC ao zz RA (f := 64) (fn := Try.f64) (c := al Try.f64) (by kernel_rfl) (by kernel_rfl) (by kernel_rfl) (S := gY) (k := 0) (by kernel_rfl) (fun R hR => ae) (n := 1000) (sel := Hs) (fun v o h => by cases h; rfl) (pre := pre) (F := F) (T := fun x => KZ (x.1.1) (x.1.2.1) (x.1.2.2.1)) (fun x Q => adU x Q) hF
def Hi (p : Nat) (x b : ag) : ag := th p (pL p (pL p x x) x) b
def yl (x : BK) : Bool := aw x.1.1
def Wb (x : BK) : OT gY.Y := .ok ⟨fw, ((Hi (pS x.1.1) x.1.2.1 x.1.2.2.1, ()), ())⟩
theorem ZN : ab Try.prog 64 (gY.aE yl Wb) := Q4 _ _ fun x oy hp ho => by
  rw [← ho]
  clear ho
  obtain ⟨⟨s, a, b, ⟨⟩⟩, ⟨⟩⟩ := x
  have hs : aw s = true := hp
  exact (OT.ax hs).trans ((OT.ax hs).trans ((OT.ax hs).trans rfl))
def sU : bO := (gY.aE yl Wb)
theorem KY : ab Try.prog 64 sU := ZN
theorem KX : aD sU := aA
def zC : Env := av 64 sU IA
theorem tM : aN Try.prog zC := ah KY zz
theorem uU : ar zC := ac KX zA
theorem LR : aY Try.prog te zC := aG follows ao tM uU
def va : ak := ⟨[.val false .int, .val true (.prod .elem (.prod .elem .bool))], [], true, 0, false⟩
abbrev aej : Type := ((Int) × ((ag × (ag × Bool))) × Unit) × (Unit)
def nD : aq := ⟨[.val false .bool], [], false⟩
def V2 : SV → Option aq := fun _ => some nD
def adR (a0 : Int) (a1 : (ag × (ag × Bool))) : OT va.Y :=
  let z0 : Bool := aw a0
  let z1 : Nat := ag.nat (cI (Int.toNat a0)).fst
  let z2 : ag := bS a0
  let z3 : Bool := yl ((a0, a1.fst, z2, ()), ())
  let z4 : Nat := pS a0
  let z5 : ag := pL z4 a1.snd.fst a1.snd.fst
  let z6 : ag := Hi z4 a1.fst z2
  let z7 := z6.w0
  let z8 := z6.w1
  let z9 := z6.w2
  let z10 := z6.w3
  (.br (z0)
  (.br (a1.snd.snd)
    (.ok ⟨nD, ((a1.fst.w0 == (0 : UInt64) && (a1.fst.w1 == (0 : UInt64) && (a1.fst.w2 == (0 : UInt64) && (a1.fst.w3 == (0 : UInt64) && true))) && (a1.snd.fst.w0 == (0 : UInt64) && (a1.snd.fst.w1 == (0 : UInt64) && (a1.snd.fst.w2 == (0 : UInt64) && (a1.snd.fst.w3 == (0 : UInt64) && true))) && (a1.snd.snd == true && true)), ()), ())⟩)
    (.br (z0)
      (.br (Nat.blt (ag.nat a1.fst) z1)
        (.br (Nat.blt (ag.nat a1.snd.fst) z1)
          (.br (z0)
            (gd [z3] (.ok ⟨nD, ((z5.w0 == z7 && (z5.w1 == z8 && (z5.w2 == z9 && (z5.w3 == z10 && true))), ()), ())⟩))
            (gd [z3] (.ok ⟨nD, (((0 : UInt64) == z7 && ((0 : UInt64) == z8 && ((0 : UInt64) == z9 && ((0 : UInt64) == z10 && true))), ()), ())⟩)))
          (.ok ⟨nD, ((false, ()), ())⟩))
        (.ok ⟨nD, ((false, ()), ())⟩))
      (.ok ⟨nD, ((false, ()), ())⟩)))
  (.ok ⟨nD, ((false, ()), ())⟩))
theorem afT (x : aej) (Q : va.Y → Prop) : wpf te zC az 1000 Try.f36 (va.inp.inj x).tm (va.inp.inj x).hp (fnK va V2 Q) (fun _ _ => False) = (adR (x.1.1) (x.1.2.1)).wpR Q := by kernel_rfl
theorem ZL (pre : aej → Bool) (F : aej → OT va.Y) (hF : ∀ (x : aej) oy, pre x = true → (F x).run = some oy → (adR (x.1.1) (x.1.2.1)).run = some oy) : ab Try.prog 36 (va.aE pre F) :=
  aC ao tM LR (f := 36) (fn := Try.f36) (c := al Try.f36) (by kernel_rfl) (by kernel_rfl) (by kernel_rfl) (S := va) (k := 0) (by kernel_rfl) (fun R hR => ae) (n := 1000) (sel := V2) (fun v o h => by cases h; rfl) (pre := pre) (F := F) (T := fun x => adR (x.1.1) (x.1.2.1)) (fun x Q => afT x Q) hF
def eqE (a b : ag) : Bool := (a.w0 == b.w0 && (a.w1 == b.w1 && (a.w2 == b.w2 && (a.w3 == b.w3 && true))))
theorem yb {a b : ag} : eqE a b = true ↔ a = b := by
  obtain ⟨a0, a1, a2, a3⟩ := a
  obtain ⟨b0, b1, b2, b3⟩ := b
  simp [eqE]
theorem ZH (a : ag) : eqE a a = true := yb.2 rfl
theorem adL (a b : ag) : eqE a b = Nat.beq a.nat b.nat := by
  cases h : eqE a b
  · cases hb : Nat.beq a.nat b.nat
    · rfl
    · rw [yb.2 (ob (Nat.eq_of_beq_eq_true hb))] at h
      cases h
  · rw [yb.1 h]
    exact (Nat.beq_refl _).symm
abbrev Pt : Type := ag × (ag × Bool)
def onB (c : Int) (P : Pt) : Bool := cond (aw c) (cond P.2.2 (Xb P.1 && (Xb P.2.1 && (P.2.2 == true && true)))
  (cond (Nat.blt P.1.nat (pS c)) (cond (Nat.blt P.2.1.nat (pS c)) (eqE (pL (pS c) P.2.1 P.2.1) (Hi (pS c) P.1 (bS c))) false) false)) false
def V3 (_ : aej) : Bool := true
def afi (x : aej) : OT va.Y := .ok ⟨nD, ((onB x.1.1 x.1.2.1, ()), ())⟩
theorem afh : ab Try.prog 36 (va.aE V3 afi) := ZL _ _ fun x oy _ ho => by
  rw [← ho]
  clear ho
  obtain ⟨⟨c, ⟨X, Y, i⟩, ⟨⟩⟩, ⟨⟩⟩ := x
  show _ = (OT.ok ⟨nD, ((onB c (X, Y, i), ()), ())⟩ : OT va.Y).run
  unfold onB
  cases hs : aw c
  · exact OT.ay hs
  · refine (OT.ax hs).trans ?_
    cases i
    · refine (OT.ay rfl).trans ((OT.ax hs).trans ?_)
      cases hx : Nat.blt X.nat (pS c)
      · exact OT.ay hx
      · refine (OT.ax hx).trans ?_
        cases hy : Nat.blt Y.nat (pS c)
        · exact OT.ay hy
        · refine (OT.ax hy).trans ((OT.ax hs).trans ((aj ?_).trans rfl))
          simp only [List.all_cons, List.all_nil, Bool.and_true]
          exact hs
    · exact OT.ax rfl
theorem Y6 {c : Int} {P : Pt} (h : onB c P = true) : aw c = true := by
  unfold onB at h
  cases hs : aw c
  · rw [hs] at h; cases h
  · rfl
def DY : bO := (va.aE V3 afi)
theorem V4 : ab Try.prog 36 DY := afh
theorem V1 : aD DY := aA
def W5 : Env := av 36 DY zC
theorem EK : aN Try.prog W5 := ah V4 tM
theorem Cl : ar W5 := ac V1 uU
theorem W4 : aY Try.prog te W5 := aG follows ao EK Cl
def eJ : ak := ⟨[.val false .int], [], true, 0, false⟩
abbrev tZ : Type := ((Int) × Unit) × (Unit)
def fR : aq := ⟨[.val true .elem, .val false .int], [], false⟩
def FR : SV → Option aq := fun _ => some fR
def JN (a0 : Int) : OT eJ.Y :=
  (.br (a0 == (0 : Int))
  (.ok ⟨fR, (({ w0 := 16513537, w1 := 0, w2 := 0, w3 := 0 }, ((0 : Int), ())), ())⟩)
  (.br (a0 == (1 : Int))
    (.ok ⟨fR, (({ w0 := 16521217, w1 := 0, w2 := 0, w3 := 0 }, ((0 : Int), ())), ())⟩)
    (.br (a0 == (2 : Int))
      (.ok ⟨fR, (({ w0 := 11037532056220336129, w1 := 2469829653914515739, w2 := 0, w3 := 4611686018427387904 }, ((0 : Int), ())), ())⟩)
      (.br (a0 == (3 : Int))
        (.ok ⟨fR, (({ w0 := 10108024940646105089, w1 := 2469829653919213789, w2 := 0, w3 := 4611686018427387904 }, ((0 : Int), ())), ())⟩)
        (.ok ⟨fR, (({ w0 := 0, w1 := 0, w2 := 0, w3 := 0 }, ((20 : Int), ())), ())⟩)))))
theorem ac0 (x : tZ) (Q : eJ.Y → Prop) : wpf te W5 az 1000 Try.f40 (eJ.inp.inj x).tm (eJ.inp.inj x).hp (fnK eJ FR Q) (fun _ _ => False) = (JN (x.1.1)).wpR Q := by kernel_rfl
theorem PN (pre : tZ → Bool) (F : tZ → OT eJ.Y) (hF : ∀ (x : tZ) oy, pre x = true → (F x).run = some oy → (JN (x.1.1)).run = some oy) : ab Try.prog 40 (eJ.aE pre F) :=
  aC ao EK W4 (f := 40) (fn := Try.f40) (c := al Try.f40) (by kernel_rfl) (by kernel_rfl) (by kernel_rfl) (S := eJ) (k := 0) (by kernel_rfl) (fun R hR => ae) (n := 1000) (sel := FR) (fun v o h => by cases h; rfl) (pre := pre) (F := F) (T := fun x => JN (x.1.1)) (fun x Q => ac0 x Q) hF
def FT (_ : tZ) : Bool := true
def Ui (x : tZ) : OT eJ.Y := .br (aw x.1.1) (.ok ⟨fR, (((cI x.1.1.toNat).1, ((0 : Int), ())), ())⟩) (.ok ⟨fR, ((⟨0, 0, 0, 0⟩, ((20 : Int), ())), ())⟩)
theorem NN : ab Try.prog 40 (eJ.aE FT Ui) := PN _ _ fun x oy _ ho => by
  rw [← ho]
  clear ho
  obtain ⟨⟨s, ⟨⟩⟩, ⟨⟩⟩ := x
  cases hs : aw s
  · obtain ⟨h0, h1, h2, h3⟩ := mg hs
    exact (OT.ay h0).trans ((OT.ay h1).trans ((OT.ay h2).trans ((OT.ay h3).trans (OT.ay (b := aw s) hs).symm)))
  · rcases b6 hs with h | h | h | h
    all_goals
      have h : s = _ := h
      subst h
      rfl
def se : bO := (eJ.aE FT Ui)
theorem JM : ab Try.prog 40 se := NN
theorem JL : aD se := aA
def za : Env := av 40 se W5
theorem tz : aN Try.prog za := ah JM EK
theorem uI : ar za := ac JL Cl
theorem LI : aY Try.prog te za := aG follows ao tz uI
def fH : ak := ⟨[.val false .int], [], true, 0, false⟩
abbrev AY : Type := ((Int) × Unit) × (Unit)
def pG : aq := ⟨[.val false .u64], [], false⟩
def FW : SV → Option aq := fun _ => some pG
def JQ (a0 : Int) : OT fH.Y :=
  (.br (a0 == (0 : Int))
  (.ok ⟨pG, (((16513537 : UInt64), ()), ())⟩)
  (.ok ⟨pG, (((16521217 : UInt64), ()), ())⟩))
theorem ac1 (x : AY) (Q : fH.Y → Prop) : wpf te za az 1000 Try.f39 (fH.inp.inj x).tm (fH.inp.inj x).hp (fnK fH FW Q) (fun _ _ => False) = (JQ (x.1.1)).wpR Q := by kernel_rfl
theorem PS (pre : AY → Bool) (F : AY → OT fH.Y) (hF : ∀ (x : AY) oy, pre x = true → (F x).run = some oy → (JQ (x.1.1)).run = some oy) : ab Try.prog 39 (fH.aE pre F) :=
  aC ao tz LI (f := 39) (fn := Try.f39) (c := al Try.f39) (by kernel_rfl) (by kernel_rfl) (by kernel_rfl) (S := fH) (k := 0) (by kernel_rfl) (fun R hR => ae) (n := 1000) (sel := FW) (fun v o h => by cases h; rfl) (pre := pre) (F := F) (T := fun x => JQ (x.1.1)) (fun x Q => ac1 x Q) hF
def EO (s : Int) : UInt64 := cond (s == 0) 16513537 16521217
def FX (_ : AY) : Bool := true
def Uk (x : AY) : OT fH.Y := .ok ⟨pG, ((EO x.1.1, ()), ())⟩
theorem Y1 : ab Try.prog 39 (fH.aE FX Uk) := PS _ _ fun x oy _ ho => by
  rw [← ho]
  clear ho
  obtain ⟨⟨s, ⟨⟩⟩, ⟨⟩⟩ := x
  show _ = (OT.ok ⟨pG, ((EO s, ()), ())⟩ : OT fH.Y).run
  unfold EO
  rcases (Bool.eq_false_or_eq_true (s == 0)).symm with h | h
  · rw [h]; exact OT.ay h
  · rw [h]; exact OT.ax h
def sg : bO := (fH.aE FX Uk)
theorem JP : ab Try.prog 39 sg := Y1
theorem JO : aD sg := aA
def tA : Env := av 39 sg za
theorem nl : aN Try.prog tA := ah JP tz
theorem uJ : ar tA := ac JO uI
theorem zb : aY Try.prog te tA := aG follows ao nl uJ
def cO : ak := ⟨[.val true .elem, .val true .elem], [], true, 0, false⟩
abbrev mv : Type := ((ag) × (ag) × Unit) × (Unit)
def jd : Shape := ⟨24, [(2, .ptr 0 0 0), (3, .ptr 1 0 0), (5, .val false .int)], [(0, .row .u64), (1, .row .u64)], 0, true⟩
abbrev aH : Type := ((Unit) × (Unit) × (Int) × Unit) × ((List (UInt64)) × (List (UInt64)) × Unit)
def fB : Shape := ⟨24, [(4, .val false .bool)], [], 0, true⟩
abbrev eL : Type := ((Bool) × Unit) × (Unit)
def ix : Shape := ⟨24, [], [], 0, true⟩
abbrev eM : Type := (Unit) × (Unit)
def AZ : SE → Option Shape := nt [(0, ix)] (some fB)
def PW (a5 : Int) (c0 : List (UInt64)) (c1 : List (UInt64)) : OT (Sum aH aS) :=
  let z0 : Bool := inB a5 4
  let z1 : Bool := decide (Int.toNat a5 + 0 < List.length c0)
  let z2 : Bool := decide (Int.toNat a5 + 0 < List.length c1)
  let z3 : UInt64 := List.getD c0 (Int.toNat a5 + 0) (0 : UInt64)
  let z4 : UInt64 := List.getD c1 (Int.toNat a5 + 0) (0 : UInt64)
  (.br (decide ((0 : Int) ≤ a5))
  (gd [z0, z1, z0, z2] (.br (!z3 == z4)
    (gd [z0, z1, z0, z2] (.ok (.inr ⟨(.ret, fB), ((decide (z3 < z4), ()), ())⟩)))
    (gd [inR (a5 - (1 : Int))] (.ok (.inl (((), ((), (a5 - (1 : Int), ()))), (c0, (c1, ()))))))))
  (.ok (.inr ⟨(.exit 0, ix), ((), ())⟩)))
def dJ (s : aH) : OT (Sum aH aS) := PW (s.1.2.2.1) (s.2.1) (s.2.2.1)
theorem PT (s : aH) (Q : Sum aH aS → Prop) : wps te tA az 1000 (bM (al Try.f41) 0) (jd.inj s) (dm jd AZ (Q : Sum jd.T aS → Prop)) = (dJ s).wpR Q := by kernel_rfl
def je (g0_r : aH → eL) (c0_r : aH → Bool) (g0_0 : aH → eM) (s : aH) : OT aS := (.br (c0_r s) (.ok ⟨(.ret, fB), g0_r s⟩) (.ok ⟨(.exit 0, ix), g0_0 s⟩))
def fZ : aq := ⟨[.val false .bool], [], false⟩
def wP : SV → Option aq := fun _ => some fZ
def wS (ok0 : aH → Bool) (g0_r : aH → eL) (c0_r : aH → Bool) (g0_0 : aH → eM) (a0 : ag) (a1 : ag) : OT cO.Y :=
  let z0 : (PUnit × PUnit × Int × PUnit) × List UInt64 × List UInt64 × PUnit := (((), (), (3 : Int), ()), [a0.w0, a0.w1, a0.w2, a0.w3], [a1.w0, a1.w1, a1.w2, a1.w3], ())
  (gd [ok0 z0] (.br (c0_r z0)
  (.ok ⟨fZ, (((g0_r z0).fst.fst, ()), ())⟩)
  (.ok ⟨fZ, ((false, ()), ())⟩)))
theorem Ul (ok0 : aH → Bool) (g0_r : aH → eL) (c0_r : aH → Bool) (g0_0 : aH → eM) (x : mv) (Q : cO.Y → Prop) : wpf te tA (bK 0 (dZ jd 0 ok0 (je g0_r c0_r g0_0)) az) 1000 Try.f41 (cO.inp.inj x).tm (cO.inp.inj x).hp (fnK cO wP Q) (fun _ _ => False) = (wS ok0 g0_r c0_r g0_0 (x.1.1) (x.1.2.1)).wpR Q := by kernel_rfl
theorem FY (ok0 : aH → Bool) (g0_r : aH → eL) (c0_r : aH → Bool) (g0_0 : aH → eM) (h0 : ∀ s : aH, ok0 s = true → ∃ m e, aB (dJ) m s = some e ∧ (je g0_r c0_r g0_0 s).run = some e) (pre : mv → Bool) (F : mv → OT cO.Y) (hF : ∀ (x : mv) oy, pre x = true → (F x).run = some oy → (wS ok0 g0_r c0_r g0_0 (x.1.1) (x.1.2.1)).run = some oy) : ab Try.prog 41 (cO.aE pre F) :=
  aC ao nl zb (f := 41) (fn := Try.f41) (c := al Try.f41) (by kernel_rfl) (by kernel_rfl) (by kernel_rfl) (S := cO) (k := 0) (by kernel_rfl) (fun R hR => (aL (c := (al Try.f41)) (by kernel_rfl) (id := 0) (by kernel_rfl) (bJ ao nl zb (sh := jd) hR (xs := AZ) (aI (by kernel_rfl) (by kernel_rfl) hR) bk ae (n := 1000) (T := dJ) (fun s Q => PT s Q) (ok := ok0) (f := je g0_r c0_r g0_0) h0) ae)) (n := 1000) (sel := wP) (fun v o h => by cases h; rfl) (pre := pre) (F := F) (T := fun x => wS ok0 g0_r c0_r g0_0 (x.1.1) (x.1.2.1)) (fun x Q => Ul ok0 g0_r c0_r g0_0 x Q) hF
theorem A9 {x y N M : Nat} (hx : x < 18446744073709551616) (hy : y < 18446744073709551616) (h : ¬ N = M) : (x + 18446744073709551616 * N < y + 18446744073709551616 * M ↔ N < M) ∧ ¬ x + 18446744073709551616 * N = y + 18446744073709551616 * M := by
  omega
theorem UK {x y N : Nat} : (x + 18446744073709551616 * N < y + 18446744073709551616 * N ↔ x < y) ∧ (¬ x = y → ¬ x + 18446744073709551616 * N = y + 18446744073709551616 * N) := by
  omega
theorem Eh {n m : Nat} {x y : UInt64} (h : n < m ↔ x.toNat < y.toNat) : decide (x < y) = Nat.blt n m := by
  have h1 : Nat.blt n m = true ↔ n < m := ⟨cK, fun h => Nat.ble_eq_true_of_le h⟩
  rw [Bool.eq_iff_iff, decide_eq_true_iff, h1, h, UInt64.lt_iff_toNat_lt]
theorem J1 {x y : UInt64} (h : ¬ x = y) : ¬ x.toNat = y.toNat := fun e => h (UInt64.toNat_inj.1 e)
def cx (a b : ag) (i : Int) : aH := (((), (), i, ()), (lst a, lst b, ()))
theorem mR (a b : ag) (k : Nat) (hk : k < 4) (h : (lst a).getD k 0 = (lst b).getD k 0) : (dJ (cx a b (k : Int))).run = some (.inl (cx a b ((k : Int) - 1))) := by
  refine (OT.ax (decide_eq_true (by dsimp only [cx]; omega))).trans ((aj ?_).trans ((OT.ay ?_).trans ((aj ?_).trans rfl)))
  · simp only [cx, Int.toNat_natCast, Nat.add_zero, ee, List.all_cons, List.all_nil, Bool.and_true, Bool.and_eq_true]
    exact ⟨aQ (by omega), decide_eq_true hk, aQ (by omega), decide_eq_true hk⟩
  · simp only [cx, Int.toNat_natCast, Nat.add_zero, h, beq_self_eq_true, Bool.not_true]
  · simp only [cx, List.all_cons, List.all_nil, Bool.and_true]
    exact aX (by omega)
theorem iH (a b : ag) (k : Nat) (hk : k < 4) (h : ¬ (lst a).getD k 0 = (lst b).getD k 0) : (dJ (cx a b (k : Int))).run = some (.inr ⟨(.ret, fB), ((decide ((lst a).getD k 0 < (lst b).getD k 0), ()), ())⟩) := by
  refine (OT.ax (decide_eq_true (by dsimp only [cx]; omega))).trans ((aj ?_).trans ((OT.ax ?_).trans ((aj ?_).trans ?_)))
  · simp only [cx, Int.toNat_natCast, Nat.add_zero, ee, List.all_cons, List.all_nil, Bool.and_true, Bool.and_eq_true]
    exact ⟨aQ (by omega), decide_eq_true hk, aQ (by omega), decide_eq_true hk⟩
  · simp only [cx, Int.toNat_natCast, Nat.add_zero, beq_eq_false_iff_ne.2 h, Bool.not_false]
  · simp only [cx, Int.toNat_natCast, Nat.add_zero, ee, List.all_cons, List.all_nil, Bool.and_true, Bool.and_eq_true]
    exact ⟨aQ (by omega), decide_eq_true hk, aQ (by omega), decide_eq_true hk⟩
  · simp only [cx, Int.toNat_natCast, Nat.add_zero]
    rfl
def wR (s : aH) : Bool := decide (s.1.2.2.1 = 3 ∧ s.2.1.length = 4 ∧ s.2.2.1.length = 4)
def sj (s : aH) : eL := ((Nat.blt (elemOf s.2.1).nat (elemOf s.2.2.1).nat, ()), ())
def gL (s : aH) : Bool := !eqE (elemOf s.2.1) (elemOf s.2.2.1)
def sk (_ : aH) : eM := ((), ())
theorem qo {a b : ag} (h : ¬ a = b) {r : Bool} (hr : r = Nat.blt a.nat b.nat) (hm : ∃ m, aB dJ m (cx a b 3) = some ⟨(.ret, fB), ((r, ()), ())⟩) :
    ∃ m e, aB dJ m (cx a b 3) = some e ∧ (je sj gL sk (cx a b 3)).run = some e := by
  obtain ⟨m, hm⟩ := hm
  refine ⟨m, _, hm, ?_⟩
  have hc : gL (cx a b 3) = true := by
    show (!eqE a b) = true
    rw [Bool.eq_false_iff.2 fun e => h (yb.1 e)]
    rfl
  subst hr
  exact OT.ax hc
theorem PV : ∀ s : aH, wR s = true → ∃ m e, aB dJ m s = some e ∧ (je sj gL sk s).run = some e := by
  rintro ⟨⟨⟨⟩, ⟨⟩, i, ⟨⟩⟩, ⟨l1, l2, ⟨⟩⟩⟩ h
  have h' := of_decide_eq_true h
  dsimp only at h'
  obtain ⟨rfl, h1, h2⟩ := h'
  obtain ⟨a, rfl⟩ : ∃ a, l1 = lst a := ⟨elemOf l1, (b8 h1).symm⟩
  obtain ⟨b, rfl⟩ : ∃ a, l2 = lst a := ⟨elemOf l2, (b8 h2).symm⟩
  have ha0 := a.w0.toNat_lt
  have hb0 := b.w0.toNat_lt
  have ha1 := a.w1.toNat_lt
  have hb1 := b.w1.toNat_lt
  have ha2 := a.w2.toNat_lt
  have hb2 := b.w2.toNat_lt
  by_cases h3 : a.w3 = b.w3
  · have s3 := mR a b 3 (by omega) h3
    by_cases h2 : a.w2 = b.w2
    · have s2 := mR a b 2 (by omega) h2
      by_cases h1 : a.w1 = b.w1
      · have s1 := mR a b 1 (by omega) h1
        by_cases h0 : a.w0 = b.w0
        · have s0 := mR a b 0 (by omega) h0
          have e : a = b := by cases a; cases b; simp_all
          have sx : (dJ (cx a b (((0 : Nat) : Int) - 1))).run = some (.inr ⟨(.exit 0, ix), ((), ())⟩) := OT.ay (decide_eq_false (by dsimp only [cx]; omega))
          refine ⟨_, _, bx s3 (bx s2 (bx s1 (bx s0 (ca sx)))), ?_⟩
          have hc : gL (((), (), 3, ()), (lst a, lst b, ())) = false := by
            show (!eqE a b) = false
            rw [e, ZH]
            rfl
          exact OT.ay hc
        · refine qo (fun e => h0 (by rw [e])) (Eh ?_) ⟨_, bx s3 (bx s2 (bx s1 (ca (iH a b 0 (by omega) h0))))⟩
          show a.nat < b.nat ↔ a.w0.toNat < b.w0.toNat
          unfold Sx.ag.nat
          rw [h3, h2, h1]
          exact UK.1
      · refine qo (fun e => h1 (by rw [e])) (Eh ?_) ⟨_, bx s3 (bx s2 (ca (iH a b 1 (by omega) h1)))⟩
        show a.nat < b.nat ↔ a.w1.toNat < b.w1.toNat
        unfold Sx.ag.nat
        rw [h3, h2]
        have k := UK (x := a.w1.toNat) (y := b.w1.toNat) (N := b.w2.toNat + 18446744073709551616 * b.w3.toNat)
        exact (A9 ha0 hb0 (k.2 (J1 h1))).1.trans k.1
    · refine qo (fun e => h2 (by rw [e])) (Eh ?_) ⟨_, bx s3 (ca (iH a b 2 (by omega) h2))⟩
      show a.nat < b.nat ↔ a.w2.toNat < b.w2.toNat
      unfold Sx.ag.nat
      rw [h3]
      have k := UK (x := a.w2.toNat) (y := b.w2.toNat) (N := b.w3.toNat)
      have k1 := A9 ha1 hb1 (k.2 (J1 h2))
      exact (A9 ha0 hb0 k1.2).1.trans (k1.1.trans k.1)
  · refine qo (fun e => h3 (by rw [e])) (Eh ?_) ⟨_, ca (iH a b 3 (by omega) h3)⟩
    show a.nat < b.nat ↔ a.w3.toNat < b.w3.toNat
    unfold Sx.ag.nat
    have k2 := A9 ha2 hb2 (J1 h3)
    have k1 := A9 ha1 hb1 k2.2
    exact (A9 ha0 hb0 k1.2).1.trans (k1.1.trans k2.1)
def wQ (_ : mv) : Bool := true
def FZ (x : mv) : OT cO.Y := .ok ⟨fZ, ((Nat.blt x.1.1.nat x.1.2.1.nat, ()), ())⟩
theorem PU : ab Try.prog 41 (cO.aE wQ FZ) := FY wR sj gL sk PV _ _ fun x oy _ ho => by
  rw [← ho]
  clear ho
  obtain ⟨⟨a, b, ⟨⟩⟩, ⟨⟩⟩ := x
  refine (aj ?_).trans ?_
  · simp only [List.all_cons, List.all_nil, Bool.and_true]
    exact decide_eq_true ⟨rfl, rfl, rfl⟩
  · rcases (Bool.eq_false_or_eq_true (eqE a b)).symm with h | h
    · have hc : gL (((), (), 3, ()), (lst a, lst b, ())) = true := by
        show (!eqE a b) = true
        rw [h]
        rfl
      exact OT.ax hc
    · have hc : gL (((), (), 3, ()), (lst a, lst b, ())) = false := by
        show (!eqE a b) = false
        rw [h]
        rfl
      refine (OT.ay hc).trans ?_
      have e : Nat.blt a.nat b.nat = false := by
        rw [yb.1 h]
        cases hb : Nat.blt b.nat b.nat
        · rfl
        · exact absurd (cK hb) (Nat.lt_irrefl _)
      show (OT.ok ⟨fZ, ((false, ()), ())⟩ : OT cO.Y).run = (OT.ok ⟨fZ, ((Nat.blt a.nat b.nat, ()), ())⟩ : OT cO.Y).run
      rw [e]
def kN : bO := (cO.aE wQ FZ)
theorem C3 : ab Try.prog 41 kN := PU
theorem C2 : aD kN := aA
def jG : Env := av 41 kN tA
theorem iJ : aN Try.prog jG := ah C3 nl
theorem nK : ar jG := ac C2 uJ
theorem q6 : aY Try.prog te jG := aG follows ao iJ nK
def du : ak := ⟨[.val true .elem, .val true .elem], [], true, 0, false⟩
abbrev mu : Type := ((ag) × (ag) × Unit) × (Unit)
def jb : Shape := ⟨39, [(2, .ptr 0 0 0), (3, .ptr 1 0 0), (4, .ptr 2 0 0), (5, .ptr 3 0 0), (6, .val false .u64), (7, .val false .int)], [(0, .row .u64), (1, .row .u64), (2, .row .u64), (3, .row .u64)], 0, true⟩
abbrev bc : Type := ((Unit) × (Unit) × (Unit) × (Unit) × (UInt64) × (Int) × Unit) × ((List (UInt64)) × (List (UInt64)) × (List (UInt64)) × (List (UInt64)) × Unit)
def iw : Shape := ⟨39, [(4, .ptr 0 0 0), (5, .ptr 1 0 0)], [(0, .row .u64), (1, .row .u64)], 0, true⟩
abbrev eK : Type := ((Unit) × (Unit) × Unit) × ((List (UInt64)) × (List (UInt64)) × Unit)
def AW : SE → Option Shape := nt [(0, iw)] none
def PR (a6 : UInt64) (a7 : Int) (c0 : List (UInt64)) (c1 : List (UInt64)) (c2 : List (UInt64)) (c3 : List (UInt64)) : OT (Sum bc aS) :=
  let z0 : Bool := inB a7 4
  let z1 : Bool := decide (Int.toNat a7 + 0 < List.length c0)
  let z2 : Bool := decide (Int.toNat a7 + 0 < List.length c1)
  let z3 : UInt64 := List.getD c0 (Int.toNat a7 + 0) (0 : UInt64)
  let z4 : UInt64 := List.getD c1 (Int.toNat a7 + 0) (0 : UInt64)
  let z5 : Bool := inR (a7 + (1 : Int))
  let z6 : UInt64 := z3 - z4
  let z7 : List UInt64 := List.set c3 (Int.toNat a7 + 0) (z6 - a6)
  (.br (decide (a7 < (4 : Int)))
  (gd [z0, z1, z0, z2, z0, decide (Int.toNat a7 + 0 < List.length c3), z0, z1, z0, z2] (.br (decide (z3 < z4))
    (gd [z5] (.ok (.inl (((), ((), ((), ((), ((1 : UInt64), (a7 + (1 : Int), ())))))), (c0, (c1, (c2, (z7, ()))))))))
    (.br (decide (z6 < a6))
      (gd [z5] (.ok (.inl (((), ((), ((), ((), ((1 : UInt64), (a7 + (1 : Int), ())))))), (c0, (c1, (c2, (z7, ()))))))))
      (gd [z5] (.ok (.inl (((), ((), ((), ((), ((0 : UInt64), (a7 + (1 : Int), ())))))), (c0, (c1, (c2, (z7, ())))))))))))
  (.ok (.inr ⟨(.exit 0, iw), (((), ((), ())), (c2, (c3, ())))⟩)))
def jc (s : bc) : OT (Sum bc aS) := PR (s.1.2.2.2.2.1) (s.1.2.2.2.2.2.1) (s.2.1) (s.2.2.1) (s.2.2.2.1) (s.2.2.2.2.1)
theorem PO (s : bc) (Q : Sum bc aS → Prop) : wps te jG az 1000 (bM (al Try.f42) 0) (jb.inj s) (dm jb AW (Q : Sum jb.T aS → Prop)) = (jc s).wpR Q := by kernel_rfl
def mr (g0_0 : bc → eK) (s : bc) : OT aS := (.ok ⟨(.exit 0, iw), g0_0 s⟩)
def sf : aq := ⟨[.val true .elem], [], false⟩
def wK : SV → Option aq := fun _ => some sf
def wN (ok0 : bc → Bool) (g0_0 : bc → eK) (a0 : ag) (a1 : ag) : OT du.Y :=
  let z0 : (PUnit × PUnit × PUnit × PUnit × UInt64 × Int × PUnit) × List UInt64 × List UInt64 × List UInt64 × List UInt64 × PUnit := (((), (), (), (), (0 : UInt64), (0 : Int), ()), [a0.w0, a0.w1, a0.w2, a0.w3], [a1.w0, a1.w1, a1.w2, a1.w3], [(0 : UInt64), (0 : UInt64), (0 : UInt64), (0 : UInt64)], [(0 : UInt64), (0 : UInt64), (0 : UInt64), (0 : UInt64)], ())
  let z1 := (g0_0 z0).snd
  let z2 := z1.snd.fst
  let z3 := z1.fst
  let z4 : List UInt64 := lay z3 z2 4 (0 : UInt64)
  (gd [ok0 z0, decide (4 ≤ List.length z2), decide ((4 / 1 : Nat) + 0 ≤ List.length z3), decide (4 ≤ List.length z4)] (.ok ⟨sf, (({ w0 := List.getD z4 0 0, w1 := List.getD z4 1 0, w2 := List.getD z4 2 0, w3 := List.getD z4 3 0 }, ()), ())⟩))
theorem Uj (ok0 : bc → Bool) (g0_0 : bc → eK) (x : mu) (Q : du.Y → Prop) : wpf te jG (bK 0 (dZ jb 0 ok0 (mr g0_0)) az) 1000 Try.f42 (du.inp.inj x).tm (du.inp.inj x).hp (fnK du wK Q) (fun _ _ => False) = (wN ok0 g0_0 (x.1.1) (x.1.2.1)).wpR Q := by kernel_rfl
theorem FV (ok0 : bc → Bool) (g0_0 : bc → eK) (h0 : ∀ s : bc, ok0 s = true → ∃ m e, aB (jc) m s = some e ∧ (mr g0_0 s).run = some e) (pre : mu → Bool) (F : mu → OT du.Y) (hF : ∀ (x : mu) oy, pre x = true → (F x).run = some oy → (wN ok0 g0_0 (x.1.1) (x.1.2.1)).run = some oy) : ab Try.prog 42 (du.aE pre F) :=
  aC ao iJ q6 (f := 42) (fn := Try.f42) (c := al Try.f42) (by kernel_rfl) (by kernel_rfl) (by kernel_rfl) (S := du) (k := 0) (by kernel_rfl) (fun R hR => (aL (c := (al Try.f42)) (by kernel_rfl) (id := 0) (by kernel_rfl) (bJ ao iJ q6 (sh := jb) hR (xs := AW) (aI (by kernel_rfl) (by kernel_rfl) hR) bk ae (n := 1000) (T := jc) (fun s Q => PO s Q) (ok := ok0) (f := mr g0_0) h0) ae)) (n := 1000) (sel := wK) (fun v o h => by cases h; rfl) (pre := pre) (F := F) (T := fun x => wN ok0 g0_0 (x.1.1) (x.1.2.1)) (fun x Q => Uj ok0 g0_0 x Q) hF
theorem P3 {x y c : UInt64} (hc : c.toNat ≤ 1) : x - y - c = jR x y c := by
  have hx := x.toNat_lt
  have hy := y.toNat_lt
  unfold jR
  rw [← UInt64.toNat_inj, UInt64.toNat_sub, UInt64.toNat_sub, UInt64.toNat_ofNat']
  omega
theorem Zd {x y c : UInt64} (h : x < y) : EN x y c = 1 := by
  have h := UInt64.lt_iff_toNat_lt.1 h
  rw [← UInt64.toNat_inj, po, if_pos (by omega)]
  rfl
theorem Zc {x y c : UInt64} (h : ¬ x < y) (hc : x - y < c) : EN x y c = 1 := by
  have hx := x.toNat_lt
  have h : ¬ x.toNat < y.toNat := fun e => h (UInt64.lt_iff_toNat_lt.2 e)
  have hc := UInt64.lt_iff_toNat_lt.1 hc
  rw [UInt64.toNat_sub] at hc
  rw [← UInt64.toNat_inj, po, if_pos (by omega)]
  rfl
theorem Zb {x y c : UInt64} (h : ¬ x < y) (hc : ¬ x - y < c) : EN x y c = 0 := by
  have hx := x.toNat_lt
  have h : ¬ x.toNat < y.toNat := fun e => h (UInt64.lt_iff_toNat_lt.2 e)
  have hc : ¬ (x - y).toNat < c.toNat := fun e => hc (UInt64.lt_iff_toNat_lt.2 e)
  rw [UInt64.toNat_sub] at hc
  rw [← UInt64.toNat_inj, po, if_neg (by omega)]
  rfl
def wM (s : bc) : Bool := decide (s.1.2.2.2.2.1 = 0 ∧ s.1.2.2.2.2.2.1 = 0 ∧ s.2.1.length = 4 ∧ s.2.2.1.length = 4 ∧ s.2.2.2.2.1 = [0, 0, 0, 0])
def AX (s : bc) : eK := (((), (), ()), (s.2.2.2.1, (upto (zP s.2.1 s.2.2.1) ([0, 0, 0, 0], 0) 4).1, ()))
theorem PQ : ∀ s : bc, wM s = true → ∃ m e, aB jc m s = some e ∧ (mr AX s).run = some e := by
  rintro ⟨⟨⟨⟩, ⟨⟩, ⟨⟩, ⟨⟩, c, i, ⟨⟩⟩, ⟨c0, c1, c2, c3, ⟨⟩⟩⟩ h
  have h' := of_decide_eq_true h
  dsimp only at h'
  obtain ⟨rfl, rfl, h0, h1, rfl⟩ := h'
  have := (bt (T := jc) (fun k s => ((((), (), (), (), s.2, (k : Int), ()), (c0, c1, c2, s.1, ())) : bc)) (zP c0 c1)
    (fun s => (⟨(.exit 0, iw), (((), (), ()), (c2, s.1, ()))⟩ : aS)) 4 ([0, 0, 0, 0], 0) (fun _ s => s.1.length = 4 ∧ s.2.toNat ≤ 1) ⟨rfl, by decide⟩ (fun k s hk hs => ⟨?_, ?_⟩) (fun s hs => ?_)).1
  · obtain ⟨m, hm⟩ := this
    exact ⟨m, _, hm, rfl⟩
  · obtain ⟨o, c⟩ := s
    dsimp only at hs
    refine (OT.ax (decide_eq_true (by dsimp only; omega))).trans ((aj ?_).trans ?_)
    · simp only [Int.toNat_natCast, Nat.add_zero, h0, h1, hs.1, List.all_cons, List.all_nil, Bool.and_true, Bool.and_eq_true]
      exact ⟨aQ (by omega), decide_eq_true (by omega), aQ (by omega), decide_eq_true (by omega), aQ (by omega), decide_eq_true (by omega), aQ (by omega), decide_eq_true (by omega), aQ (by omega), decide_eq_true (by omega)⟩
    · have hi : ∀ z, (gd [inR ((k : Int) + 1)] z : OT (Sum bc aS)).run = z.run := fun z => aj (by simp only [List.all_cons, List.all_nil, Bool.and_true]; exact aX (by omega))
      have hw := P3 (x := c0.getD k 0) (y := c1.getD k 0) hs.2
      by_cases hx : c0.getD k 0 < c1.getD k 0
      · have hk1 := Zd (c := c) hx
        refine (OT.ax (decide_eq_true ?_)).trans ((hi _).trans ?_)
        · simp only [Int.toNat_natCast, Nat.add_zero]; exact hx
        · simp only [OT.dq, Int.toNat_natCast, Nat.add_zero, zP, hw, hk1]
          rfl
      · refine (OT.ay (decide_eq_false ?_)).trans ?_
        · simp only [Int.toNat_natCast, Nat.add_zero]; exact hx
        · by_cases hd : c0.getD k 0 - c1.getD k 0 < c
          · have hk2 := Zc hx hd
            refine (OT.ax (decide_eq_true ?_)).trans ((hi _).trans ?_)
            · simp only [Int.toNat_natCast, Nat.add_zero]; exact hd
            · simp only [OT.dq, Int.toNat_natCast, Nat.add_zero, zP, hw, hk2]
              rfl
          · have hk3 := Zb hx hd
            refine (OT.ay (decide_eq_false ?_)).trans ((hi _).trans ?_)
            · simp only [Int.toNat_natCast, Nat.add_zero]; exact hd
            · simp only [OT.dq, Int.toNat_natCast, Nat.add_zero, zP, hw, hk3]
              rfl
  · exact ⟨by simp only [zP, List.length_set]; exact hs.1, rW⟩
  · exact OT.ay (decide_eq_false (by dsimp only; omega))
def wL (_ : mu) : Bool := true
def wO (x : mu) : OT du.Y := .ok ⟨sf, (((nu x.1.1 x.1.2.1).1, ()), ())⟩
theorem PP : ab Try.prog 42 (du.aE wL wO) := FV wM AX PQ _ _ fun x oy hp ho => by
  rw [← ho]
  clear ho
  obtain ⟨⟨a, b, ⟨⟩⟩, ⟨⟩⟩ := x
  obtain ⟨_, hw⟩ := Aq a b
  refine (aj ?_).trans ?_
  · simp only [List.all_cons, List.all_nil, Bool.and_true, Bool.and_eq_true]
    exact ⟨rfl, rfl, rfl, rfl⟩
  · simp only [wO, hw]
    rfl
def kM : bO := (du.aE wL wO)
theorem C1 : ab Try.prog 42 kM := PP
theorem C0 : aD kM := aA
def jF : Env := av 42 kM jG
theorem iI : aN Try.prog jF := ah C1 iJ
theorem nJ : ar jF := ac C0 nK
theorem qZ : aY Try.prog te jF := aG follows ao iI nJ
def eI : ak := ⟨[.val true .elem, .val true .elem], [], true, 0, false⟩
abbrev sb : Type := ((ag) × (ag) × Unit) × (Unit)
def kJ : Shape := ⟨39, [(2, .ptr 0 0 0), (3, .ptr 1 0 0), (4, .ptr 2 0 0), (5, .ptr 3 0 0), (6, .val false .u64), (7, .val false .int)], [(0, .row .u64), (1, .row .u64), (2, .row .u64), (3, .row .u64)], 0, true⟩
abbrev bq : Type := ((Unit) × (Unit) × (Unit) × (Unit) × (UInt64) × (Int) × Unit) × ((List (UInt64)) × (List (UInt64)) × (List (UInt64)) × (List (UInt64)) × Unit)
def jW : Shape := ⟨39, [(4, .ptr 0 0 0), (5, .ptr 1 0 0)], [(0, .row .u64), (1, .row .u64)], 0, true⟩
abbrev fA : Type := ((Unit) × (Unit) × Unit) × ((List (UInt64)) × (List (UInt64)) × Unit)
def FI : SE → Option Shape := nt [(0, jW)] none
def T9 (a6 : UInt64) (a7 : Int) (c0 : List (UInt64)) (c1 : List (UInt64)) (c2 : List (UInt64)) (c3 : List (UInt64)) : OT (Sum bq aS) :=
  let z0 : Bool := inB a7 4
  let z1 : Bool := decide (Int.toNat a7 + 0 < List.length c0)
  let z2 : UInt64 := List.getD c0 (Int.toNat a7 + 0) (0 : UInt64)
  let z3 : UInt64 := z2 + List.getD c1 (Int.toNat a7 + 0) (0 : UInt64)
  let z4 : Bool := inR (a7 + (1 : Int))
  let z5 : List UInt64 := List.set c3 (Int.toNat a7 + 0) (z3 + a6)
  (.br (decide (a7 < (4 : Int)))
  (gd [z0, z1, z0, decide (Int.toNat a7 + 0 < List.length c1), z0, decide (Int.toNat a7 + 0 < List.length c3), z0, z1] (.br (decide (z3 < z2))
    (gd [z4] (.ok (.inl (((), ((), ((), ((), ((1 : UInt64), (a7 + (1 : Int), ())))))), (c0, (c1, (c2, (z5, ()))))))))
    (gd [z0, decide (Int.toNat a7 + 0 < List.length z5)] (.br (decide (List.getD z5 (Int.toNat a7 + 0) (0 : UInt64) < z3))
      (gd [z4] (.ok (.inl (((), ((), ((), ((), ((1 : UInt64), (a7 + (1 : Int), ())))))), (c0, (c1, (c2, (z5, ()))))))))
      (gd [z4] (.ok (.inl (((), ((), ((), ((), ((0 : UInt64), (a7 + (1 : Int), ())))))), (c0, (c1, (c2, (z5, ()))))))))))))
  (.ok (.inr ⟨(.exit 0, jW), (((), ((), ())), (c2, (c3, ())))⟩)))
def kK (s : bq) : OT (Sum bq aS) := T9 (s.1.2.2.2.2.1) (s.1.2.2.2.2.2.1) (s.2.1) (s.2.2.1) (s.2.2.2.1) (s.2.2.2.2.1)
theorem T6 (s : bq) (Q : Sum bq aS → Prop) : wps te jF az 1000 (bM (al Try.f53) 0) (kJ.inj s) (dm kJ FI (Q : Sum kJ.T aS → Prop)) = (kK s).wpR Q := by kernel_rfl
def pC (g0_0 : bq → fA) (s : bq) : OT aS := (.ok ⟨(.exit 0, jW), g0_0 s⟩)
def wE : aq := ⟨[.val true .elem], [], false⟩
def AQ : SV → Option aq := fun _ => some wE
def CU (ok0 : bq → Bool) (g0_0 : bq → fA) (a0 : ag) (a1 : ag) : OT eI.Y :=
  let z0 : (PUnit × PUnit × PUnit × PUnit × UInt64 × Int × PUnit) × List UInt64 × List UInt64 × List UInt64 × List UInt64 × PUnit := (((), (), (), (), (0 : UInt64), (0 : Int), ()), [a0.w0, a0.w1, a0.w2, a0.w3], [a1.w0, a1.w1, a1.w2, a1.w3], [(0 : UInt64), (0 : UInt64), (0 : UInt64), (0 : UInt64)], [(0 : UInt64), (0 : UInt64), (0 : UInt64), (0 : UInt64)], ())
  let z1 := (g0_0 z0).snd
  let z2 := z1.snd.fst
  let z3 := z1.fst
  let z4 : List UInt64 := lay z3 z2 4 (0 : UInt64)
  (gd [ok0 z0, decide (4 ≤ List.length z2), decide ((4 / 1 : Nat) + 0 ≤ List.length z3), decide (4 ≤ List.length z4)] (.ok ⟨wE, (({ w0 := List.getD z4 0 0, w1 := List.getD z4 1 0, w2 := List.getD z4 2 0, w3 := List.getD z4 3 0 }, ()), ())⟩))
theorem YW (ok0 : bq → Bool) (g0_0 : bq → fA) (x : sb) (Q : eI.Y → Prop) : wpf te jF (bK 0 (dZ kJ 0 ok0 (pC g0_0)) az) 1000 Try.f53 (eI.inp.inj x).tm (eI.inp.inj x).hp (fnK eI AQ Q) (fun _ _ => False) = (CU ok0 g0_0 (x.1.1) (x.1.2.1)).wpR Q := by kernel_rfl
theorem JD (ok0 : bq → Bool) (g0_0 : bq → fA) (h0 : ∀ s : bq, ok0 s = true → ∃ m e, aB (kK) m s = some e ∧ (pC g0_0 s).run = some e) (pre : sb → Bool) (F : sb → OT eI.Y) (hF : ∀ (x : sb) oy, pre x = true → (F x).run = some oy → (CU ok0 g0_0 (x.1.1) (x.1.2.1)).run = some oy) : ab Try.prog 53 (eI.aE pre F) :=
  aC ao iI qZ (f := 53) (fn := Try.f53) (c := al Try.f53) (by kernel_rfl) (by kernel_rfl) (by kernel_rfl) (S := eI) (k := 0) (by kernel_rfl) (fun R hR => (aL (c := (al Try.f53)) (by kernel_rfl) (id := 0) (by kernel_rfl) (bJ ao iI qZ (sh := kJ) hR (xs := FI) (aI (by kernel_rfl) (by kernel_rfl) hR) bk ae (n := 1000) (T := kK) (fun s Q => T6 s Q) (ok := ok0) (f := pC g0_0) h0) ae)) (n := 1000) (sel := AQ) (fun v o h => by cases h; rfl) (pre := pre) (F := F) (T := fun x => CU ok0 g0_0 (x.1.1) (x.1.2.1)) (fun x Q => YW ok0 g0_0 x Q) hF
theorem Uq {x y c : UInt64} : x + y + c = nv x y c := by
  have hx := x.toNat_lt
  have hy := y.toNat_lt
  unfold nv
  rw [← UInt64.toNat_inj, UInt64.toNat_add, UInt64.toNat_add, UInt64.toNat_ofNat']
  omega
theorem Eu {x y c : UInt64} (hc : c.toNat ≤ 1) : (o1 x y c).toNat = (x.toNat + y.toNat + c.toNat) / 18446744073709551616 := by
  have hx := x.toNat_lt
  have hy := y.toNat_lt
  unfold o1
  rw [UInt64.toNat_ofNat']
  omega
theorem ac6 {x y c : UInt64} (hc : c.toNat ≤ 1) (h : x + y < x) : o1 x y c = 1 := by
  have hx := x.toNat_lt
  have hy := y.toNat_lt
  have h := UInt64.lt_iff_toNat_lt.1 h
  rw [UInt64.toNat_add] at h
  rw [← UInt64.toNat_inj, Eu hc, show (1 : UInt64).toNat = 1 from rfl]
  omega
theorem ac5 {x y c : UInt64} (hc : c.toNat ≤ 1) (h : ¬ x + y < x) (h2 : x + y + c < x + y) : o1 x y c = 1 := by
  have hx := x.toNat_lt
  have hy := y.toNat_lt
  have h : ¬ (x + y).toNat < x.toNat := fun e => h (UInt64.lt_iff_toNat_lt.2 e)
  have h2 := UInt64.lt_iff_toNat_lt.1 h2
  rw [UInt64.toNat_add] at h
  rw [UInt64.toNat_add, UInt64.toNat_add] at h2
  rw [← UInt64.toNat_inj, Eu hc, show (1 : UInt64).toNat = 1 from rfl]
  omega
theorem ac4 {x y c : UInt64} (hc : c.toNat ≤ 1) (h : ¬ x + y < x) (h2 : ¬ x + y + c < x + y) : o1 x y c = 0 := by
  have hx := x.toNat_lt
  have hy := y.toNat_lt
  have h : ¬ (x + y).toNat < x.toNat := fun e => h (UInt64.lt_iff_toNat_lt.2 e)
  have h2 : ¬ (x + y + c).toNat < (x + y).toNat := fun e => h2 (UInt64.lt_iff_toNat_lt.2 e)
  rw [UInt64.toNat_add] at h
  rw [UInt64.toNat_add, UInt64.toNat_add] at h2
  rw [← UInt64.toNat_inj, Eu hc, show (0 : UInt64).toNat = 0 from rfl]
  omega
def AS (s : bq) : Bool := decide (s.1.2.2.2.2.1 = 0 ∧ s.1.2.2.2.2.2.1 = 0 ∧ s.2.1.length = 4 ∧ s.2.2.1.length = 4 ∧ s.2.2.2.2.1 = [0, 0, 0, 0])
def FL (s : bq) : fA := (((), (), ()), (s.2.2.2.1, (upto (Ag s.2.1 s.2.2.1) ([0, 0, 0, 0], 0) 4).1, ()))
theorem T8 : ∀ s : bq, AS s = true → ∃ m e, aB kK m s = some e ∧ (pC FL s).run = some e := by
  rintro ⟨⟨⟨⟩, ⟨⟩, ⟨⟩, ⟨⟩, c, i, ⟨⟩⟩, ⟨c0, c1, c2, c3, ⟨⟩⟩⟩ h
  have h' := of_decide_eq_true h
  dsimp only at h'
  obtain ⟨rfl, rfl, h0, h1, rfl⟩ := h'
  have := (bt (T := kK) (fun k s => ((((), (), (), (), s.2, (k : Int), ()), (c0, c1, c2, s.1, ())) : bq)) (Ag c0 c1)
    (fun s => (⟨(.exit 0, jW), (((), (), ()), (c2, s.1, ()))⟩ : aS)) 4 ([0, 0, 0, 0], 0) (fun _ s => s.1.length = 4 ∧ s.2.toNat ≤ 1) ⟨rfl, by decide⟩ (fun k s hk hs => ⟨?_, ?_⟩) (fun s hs => ?_)).1
  · obtain ⟨m, hm⟩ := this
    exact ⟨m, _, hm, rfl⟩
  · obtain ⟨o, c⟩ := s
    dsimp only at hs
    refine (OT.ax (decide_eq_true (by dsimp only; omega))).trans ((aj ?_).trans ?_)
    · simp only [Int.toNat_natCast, Nat.add_zero, h0, h1, hs.1, List.all_cons, List.all_nil, Bool.and_true, Bool.and_eq_true]
      exact ⟨aQ (by omega), decide_eq_true (by omega), aQ (by omega), decide_eq_true (by omega), aQ (by omega), decide_eq_true (by omega), aQ (by omega), decide_eq_true (by omega)⟩
    · have hi : ∀ z, (gd [inR ((k : Int) + 1)] z : OT (Sum bq aS)).run = z.run := fun z => aj (by simp only [List.all_cons, List.all_nil, Bool.and_true]; exact aX (by omega))
      have hw := Uq (x := c0.getD k 0) (y := c1.getD k 0) (c := c)
      by_cases hx : c0.getD k 0 + c1.getD k 0 < c0.getD k 0
      · have hk1 := ac6 hs.2 hx
        refine (OT.ax (decide_eq_true ?_)).trans ((hi _).trans ?_)
        · simp only [Int.toNat_natCast, Nat.add_zero]; exact hx
        · simp only [OT.dq, Int.toNat_natCast, Nat.add_zero, Ag, hw, hk1]
          rfl
      · have hs2 : ∀ v, (o.set k v).getD k 0 = v := fun v => by
          rw [List.getD_eq_getElem?_getD, List.getElem?_set_self (by omega)]
          rfl
        refine (OT.ay (decide_eq_false ?_)).trans ((aj ?_).trans ?_)
        · simp only [Int.toNat_natCast, Nat.add_zero]; exact hx
        · simp only [Int.toNat_natCast, Nat.add_zero, List.length_set, hs.1, List.all_cons, List.all_nil, Bool.and_true, Bool.and_eq_true]
          exact ⟨aQ (by omega), decide_eq_true (by omega)⟩
        · by_cases hd : c0.getD k 0 + c1.getD k 0 + c < c0.getD k 0 + c1.getD k 0
          · have hk2 := ac5 hs.2 hx hd
            refine (OT.ax (decide_eq_true ?_)).trans ((hi _).trans ?_)
            · simp only [Int.toNat_natCast, Nat.add_zero, hs2]; exact hd
            · simp only [OT.dq, Int.toNat_natCast, Nat.add_zero, Ag, hw, hk2]
              rfl
          · have hk3 := ac4 hs.2 hx hd
            refine (OT.ay (decide_eq_false ?_)).trans ((hi _).trans ?_)
            · simp only [Int.toNat_natCast, Nat.add_zero, hs2]; exact hd
            · simp only [OT.dq, Int.toNat_natCast, Nat.add_zero, Ag, hw, hk3]
              rfl
  · exact ⟨by simp only [Ag, List.length_set]; exact hs.1, tj hs.2⟩
  · exact OT.ay (decide_eq_false (by dsimp only; omega))
def AR (_ : sb) : Bool := true
def CV (x : sb) : OT eI.Y := .ok ⟨wE, (((tP x.1.1 x.1.2.1).1, ()), ())⟩
theorem T7 : ab Try.prog 53 (eI.aE AR CV) := JD AS FL T8 _ _ fun x oy hp ho => by
  rw [← ho]
  clear ho
  obtain ⟨⟨a, b, ⟨⟩⟩, ⟨⟩⟩ := x
  obtain ⟨_, hw⟩ := Ak a b
  refine (aj ?_).trans ?_
  · simp only [List.all_cons, List.all_nil, Bool.and_true, Bool.and_eq_true]
    exact ⟨rfl, rfl, rfl, rfl⟩
  · simp only [CV, hw]
    rfl
def n4 : bO := (eI.aE AR CV)
theorem FK : ab Try.prog 53 n4 := T7
theorem FJ : aD n4 := aA
def km : Env := av 53 n4 jF
theorem ig : aN Try.prog km := ah FK iI
theorem qY : ar km := ac FJ nJ
theorem lO : aY Try.prog te km := aG follows ao ig qY
def gJ : ak := ⟨[.val false .int, .val true .elem], [], true, 0, false⟩
abbrev FM : Type := ((Int) × (ag) × Unit) × (Unit)
def wH : Shape := ⟨60, [(3, .ptr 0 0 0), (4, .ptr 1 0 0), (5, .val false .u64), (6, .val false .u64), (7, .val false .int)], [(0, .row .u64), (1, .row .u64)], 0, true⟩
abbrev cr : Type := ((Unit) × (Unit) × (UInt64) × (UInt64) × (Int) × Unit) × ((List (UInt64)) × (List (UInt64)) × Unit)
def pE : Shape := ⟨60, [(4, .ptr 0 0 0), (6, .val false .u64)], [(0, .row .u64)], 0, true⟩
abbrev ja : Type := ((Unit) × (UInt64) × Unit) × ((List (UInt64)) × Unit)
def Ud : SE → Option Shape := nt [(0, pE)] none
def acY (a5 : UInt64) (a6 : UInt64) (a7 : Int) (c0 : List (UInt64)) (c1 : List (UInt64)) : OT (Sum cr aS) :=
  let z0 : Bool := inB a7 4
  let z1 : Bool := decide (Int.toNat a7 + 0 < List.length c0)
  let z2 : Bool := !a5 == (0 : UInt64)
  let z3 : UInt64 := List.getD c0 (Int.toNat a7 + 0) (0 : UInt64)
  (.br (decide ((0 : Int) ≤ a7))
  (gd [z0, z1, z2, z0, z1, z2, inR (a7 - (1 : Int))] (.ok (.inl (((), ((), (a5, ((bC ((bC a6 (32 : Int) + aP z3 (32 : Int)) % a5) (32 : Int) + (z3 &&& (4294967295 : UInt64))) % a5, (a7 - (1 : Int), ()))))), (c0, (c1, ()))))))
  (.ok (.inr ⟨(.exit 0, pE), (((), (a6, ())), (c1, ()))⟩)))
def wJ (s : cr) : OT (Sum cr aS) := acY (s.1.2.2.1) (s.1.2.2.2.1) (s.1.2.2.2.2.1) (s.2.1) (s.2.2.1)
theorem acU (s : cr) (Q : Sum cr aS → Prop) : wps te km az 1000 (bM (al Try.f17) 0) (wH.inj s) (dm wH Ud (Q : Sum wH.T aS → Prop)) = (wJ s).wpR Q := by kernel_rfl
def CY (g0_0 : cr → ja) (s : cr) : OT aS := (.ok ⟨(.exit 0, pE), g0_0 s⟩)
def wG : Shape := ⟨60, [(3, .ptr 0 0 0), (4, .ptr 1 0 0), (8, .ptr 2 0 0)], [(0, .row .u64), (1, .row .u64), (2, .row .u64)], 0, true⟩
abbrev cC : Type := ((Unit) × (Unit) × (Unit) × Unit) × ((List (UInt64)) × (List (UInt64)) × (List (UInt64)) × Unit)
def pD : Shape := ⟨60, [(3, .ptr 0 0 0), (4, .ptr 1 0 0)], [(0, .row .u64), (1, .row .u64)], 0, true⟩
abbrev iZ : Type := ((Unit) × (Unit) × Unit) × ((List (UInt64)) × (List (UInt64)) × Unit)
def Uc : SE → Option Shape := nt [(2, pD)] none
def acX (c0 : List (UInt64)) (c1 : List (UInt64)) (c2 : List (UInt64)) : OT (Sum cC aS) :=
  let z0 : Nat := List.length c0
  let z1 : Bool := decide (4 ≤ z0)
  let z2 : Bool := decide (4 ≤ List.length c2)
  let z3 : ag := { w0 := List.getD c0 0 0, w1 := List.getD c0 1 0, w2 := List.getD c0 2 0, w3 := List.getD c0 3 0 }
  let z4 : ag := { w0 := List.getD c2 0 0, w1 := List.getD c2 1 0, w2 := List.getD c2 2 0, w3 := List.getD c2 3 0 }
  let z5 := (nu z3 z4).fst
  (gd [z1, z2] (.br (!Nat.blt (ag.nat z3) (ag.nat z4))
  (gd [z1, z2, decide ((4 / 1 : Nat) + 0 ≤ z0)] (.ok (.inl (((), ((), ((), ()))), (List.set (List.set (List.set (List.set c0 0 z5.w0) 1 z5.w1) 2 z5.w2) 3 z5.w3, (c1, (c2, ())))))))
  (.ok (.inr ⟨(.exit 2, pD), (((), ((), ())), (c0, (c1, ())))⟩))))
def wI (s : cC) : OT (Sum cC aS) := acX (s.2.1) (s.2.2.1) (s.2.2.2.1)
theorem acT (s : cC) (Q : Sum cC aS → Prop) : wps te km az 1000 (bM (al Try.f17) 2) (wG.inj s) (dm wG Uc (Q : Sum wG.T aS → Prop)) = (wI s).wpR Q := by kernel_rfl
def CX (g2_2 : cC → iZ) (s : cC) : OT aS := (.ok ⟨(.exit 2, pD), g2_2 s⟩)
def iP : aq := ⟨[.val true .elem], [], false⟩
def NG : SV → Option aq := fun _ => some iP
def NI (ok0 : cr → Bool) (g0_0 : cr → ja) (ok2 : cC → Bool) (g2_2 : cC → iZ) (a0 : Int) (a1 : ag) : OT gJ.Y :=
  let z0 : (PUnit × PUnit × UInt64 × UInt64 × Int × PUnit) × List UInt64 × List UInt64 × PUnit := (((), (), EO a0, (0 : UInt64), (3 : Int), ()), [a1.w0, a1.w1, a1.w2, a1.w3], [(0 : UInt64), (0 : UInt64), (0 : UInt64), (0 : UInt64)], ())
  let z1 : Bool := ok0 z0
  let z2 : (PUnit × UInt64 × PUnit) × List UInt64 × PUnit := g0_0 z0
  let z3 := z2.snd.fst
  let z4 : Bool := decide ((4 / 1 : Nat) + 0 ≤ List.length z3)
  let z5 : List UInt64 := List.set (List.set (List.set (List.set z3 0 z2.fst.snd.fst) 1 (0 : UInt64)) 2 (0 : UInt64)) 3 (0 : UInt64)
  let z6 : Bool := decide (4 ≤ List.length z5)
  let z7 : ag := { w0 := List.getD z5 0 0, w1 := List.getD z5 1 0, w2 := List.getD z5 2 0, w3 := List.getD z5 3 0 }
  let z8 : ag := (cI (Int.toNat a0)).fst
  let z9 : (PUnit × PUnit × PUnit × PUnit) × List UInt64 × List UInt64 × List UInt64 × PUnit := (((), (), (), ()), [a1.w0, a1.w1, a1.w2, a1.w3], [(0 : UInt64), (0 : UInt64), (0 : UInt64), (0 : UInt64)], [z8.w0, z8.w1, z8.w2, z8.w3], ())
  let z10 := (g2_2 z9).snd
  let z11 := z10.fst
  let z12 := z10.snd.fst
  let z13 : List UInt64 := lay z12 z11 4 (0 : UInt64)
  (.br (a0 == (0 : Int))
  (gd [z1, z4, z6] (.ok ⟨iP, ((z7, ()), ())⟩))
  (.br (a0 == (1 : Int))
    (gd [z1, z4, z6] (.ok ⟨iP, ((z7, ()), ())⟩))
    (.br (aw a0)
      (gd [ok2 z9, decide (4 ≤ List.length z11), decide ((4 / 1 : Nat) + 0 ≤ List.length z12), decide (4 ≤ List.length z13)] (.ok ⟨iP, (({ w0 := List.getD z13 0 0, w1 := List.getD z13 1 0, w2 := List.getD z13 2 0, w3 := List.getD z13 3 0 }, ()), ())⟩))
      (.ok ⟨iP, (({ w0 := 0, w1 := 0, w2 := 0, w3 := 0 }, ()), ())⟩))))
theorem aeP (ok0 : cr → Bool) (g0_0 : cr → ja) (ok2 : cC → Bool) (g2_2 : cC → iZ) (x : FM) (Q : gJ.Y → Prop) : wpf te km (bK 2 (dZ wG 2 ok2 (CX g2_2)) (bK 0 (dZ wH 0 ok0 (CY g0_0)) az)) 1000 Try.f17 (gJ.inp.inj x).tm (gJ.inp.inj x).hp (fnK gJ NG Q) (fun _ _ => False) = (NI ok0 g0_0 ok2 g2_2 (x.1.1) (x.1.2.1)).wpR Q := by kernel_rfl
theorem Uf (ok0 : cr → Bool) (g0_0 : cr → ja) (ok2 : cC → Bool) (g2_2 : cC → iZ) (h0 : ∀ s : cr, ok0 s = true → ∃ m e, aB (wJ) m s = some e ∧ (CY g0_0 s).run = some e) (h2 : ∀ s : cC, ok2 s = true → ∃ m e, aB (wI) m s = some e ∧ (CX g2_2 s).run = some e) (pre : FM → Bool) (F : FM → OT gJ.Y) (hF : ∀ (x : FM) oy, pre x = true → (F x).run = some oy → (NI ok0 g0_0 ok2 g2_2 (x.1.1) (x.1.2.1)).run = some oy) : ab Try.prog 17 (gJ.aE pre F) :=
  aC ao ig lO (f := 17) (fn := Try.f17) (c := al Try.f17) (by kernel_rfl) (by kernel_rfl) (by kernel_rfl) (S := gJ) (k := 0) (by kernel_rfl) (fun R hR => (aL (c := (al Try.f17)) (by kernel_rfl) (id := 2) (by kernel_rfl) (bJ ao ig lO (sh := wG) hR (xs := Uc) (aI (by kernel_rfl) (by kernel_rfl) hR) bk ae (n := 1000) (T := wI) (fun s Q => acT s Q) (ok := ok2) (f := CX g2_2) h2) (aL (c := (al Try.f17)) (by kernel_rfl) (id := 0) (by kernel_rfl) (bJ ao ig lO (sh := wH) hR (xs := Ud) (aI (by kernel_rfl) (by kernel_rfl) hR) bk ae (n := 1000) (T := wJ) (fun s Q => acU s Q) (ok := ok0) (f := CY g0_0) h0) ae))) (n := 1000) (sel := NG) (fun v o h => by cases h; rfl) (pre := pre) (F := F) (T := fun x => NI ok0 g0_0 ok2 g2_2 (x.1.1) (x.1.2.1)) (fun x Q => aeP ok0 g0_0 ok2 g2_2 x Q) hF
theorem aeT {r w m : Nat} : ((r * 4294967296 + w / 4294967296) % m * 4294967296 + w % 4294967296) % m = (r * 18446744073709551616 + w) % m := by
  have e : (r * 4294967296 + w / 4294967296) * 4294967296 + w % 4294967296 = r * 18446744073709551616 + w := by omega
  rw [Nat.add_mod, Nat.mul_mod, Nat.mod_mod, ← Nat.mul_mod, ← Nat.add_mod, e]
theorem ac8 {r w m : UInt64} (hs : dz m = true) (hr : r.toNat < m.toNat) : (bC ((bC r 32 + aP w 32) % m) 32 + (w &&& 4294967295)) % m = Hh r w m := by
  have hm := gD hs
  have hb : m.toNat ≤ 16521217 := by rcases cD hs with rfl | rfl <;> decide
  have hw := w.toNat_lt
  have e1 : (bC r 32).toNat = r.toNat * 4294967296 := by
    have : (bC r 32).toNat = r.toNat * 2 ^ 32 % 2 ^ 64 := gE r 32 (by omega)
    rw [this]
    omega
  have e2 : (aP w 32).toNat = w.toNat / 4294967296 := dp w 32 (by omega)
  have e3 : ((bC r 32 + aP w 32) % m).toNat = (r.toNat * 4294967296 + w.toNat / 4294967296) % m.toNat := by
    rw [UInt64.toNat_mod, UInt64.toNat_add, e1, e2, Nat.mod_eq_of_lt (a := r.toNat * 4294967296 + w.toNat / 4294967296) (by omega)]
  generalize (bC r 32 + aP w 32) % m = q at e3
  have hq : q.toNat < m.toNat := by rw [e3]; exact Nat.mod_lt _ hm
  have e4 : (bC q 32).toNat = q.toNat * 4294967296 := by
    have : (bC q 32).toNat = q.toNat * 2 ^ 32 % 2 ^ 64 := gE q 32 (by omega)
    rw [this]
    omega
  rw [← UInt64.toNat_inj, ka hm, UInt64.toNat_mod, UInt64.toNat_add, e4, fu, Nat.mod_eq_of_lt (a := q.toNat * 4294967296 + w.toNat % 4294967296) (by omega), e3, aeT]
def vo (s : cr) : Bool := decide (s.1.2.2.2.1 = 0 ∧ s.1.2.2.2.2.1 = 3 ∧ s.2.1.length = 4) && dz s.1.2.2.1
def JH (s : cr) : ja := (((), aeJ s.2.1 s.1.2.2.1, ()), (s.2.2.1, ()))
theorem acW : ∀ s : cr, vo s = true → ∃ m e, aB wJ m s = some e ∧ (CY JH s).run = some e := by
  rintro ⟨⟨⟨⟩, ⟨⟩, sm, r, i, ⟨⟩⟩, ⟨c1, c2, ⟨⟩⟩⟩ h
  simp only [vo, Bool.and_eq_true, decide_eq_true_eq] at h
  obtain ⟨⟨rfl, rfl, hl⟩, hs⟩ := h
  have hm := gD hs
  have hz : (!(sm == 0)) = true := by rcases cD hs with rfl | rfl <;> rfl
  have := (bt (T := wJ) (fun k r => ((((), (), sm, r, 3 - (k : Int), ()), (c1, c2, ())) : cr)) (fun k r => Hh r (c1.getD (3 - k) 0) sm)
    (fun r => (⟨(.exit 0, pE), (((), r, ()), (c2, ()))⟩ : aS)) 4 0 (fun _ r => r.toNat < sm.toNat) hm (fun k r hk hr => ⟨?_, ?_⟩) (fun r hr => ?_)).1
  · obtain ⟨m, hm⟩ := this
    exact ⟨m, _, hm, rfl⟩
  · have e1 : (3 - (k : Int)).toNat = 3 - k := by omega
    have e2 : (3 : Int) - (k : Int) - 1 = 3 - ((k + 1 : Nat) : Int) := by omega
    refine (OT.ax (decide_eq_true (by dsimp only; omega))).trans ((aj ?_).trans ?_)
    · simp only [e1, Nat.add_zero, hl, hz, List.all_cons, List.all_nil, Bool.and_true, Bool.true_and, Bool.and_eq_true]
      exact ⟨aQ (by omega), decide_eq_true (by omega), aQ (by omega), decide_eq_true (by omega), aX (by omega)⟩
    · simp only [OT.dq, e1, e2, Nat.add_zero, ac8 hs hr]
  · rw [ka hm]
    exact Nat.mod_lt _ hm
  · exact OT.ay (decide_eq_false (by dsimp only; omega))
def CW (s : cC) : Bool := decide (s.2.1.length = 4 ∧ s.2.2.2.1.length = 4 ∧ 0 < (elemOf s.2.2.2.1).nat)
def JG (s : cC) : iZ := (((), (), ()), (lst (ofN ((elemOf s.2.1).nat % (elemOf s.2.2.2.1).nat)), s.2.2.1, ()))
theorem PK {M : ag} {c2 : List UInt64} (hm : 0 < M.nat) : ∀ (n : Nat) (a : ag), a.nat = n →
    ∃ m, aB wI m (((), (), (), ()), (lst a, c2, lst M, ())) = some ⟨(.exit 2, pD), (((), (), ()), (lst (ofN (a.nat % M.nat)), c2, ()))⟩ := by
  intro n
  induction n using Nat.strongRecOn with
  | _ n ih =>
    intro a hn
    rcases (Bool.eq_false_or_eq_true (Nat.blt a.nat M.nat)).symm with hb | hb
    · have hle : M.nat ≤ a.nat := by
        rcases Nat.lt_or_ge a.nat M.nat with h | h
        · have : Nat.blt a.nat M.nat = true := Nat.ble_eq_true_of_le h
          rw [this] at hb; cases hb
        · exact h
      have hd := o6 hle
      obtain ⟨m, hm2⟩ := ih (a.nat - M.nat) (by omega) (nu a M).1 hd
      rw [hd, ← Nat.mod_eq_sub_mod hle] at hm2
      refine ⟨m + 1, bx ?_ hm2⟩
      refine (aj rfl).trans ((OT.ax (b := !Nat.blt a.nat M.nat) (by rw [hb]; rfl)).trans ((aj rfl).trans rfl))
    · have hlt := cK hb
      rw [Nat.mod_eq_of_lt hlt, C8]
      refine ⟨1, ca ?_⟩
      exact (aj rfl).trans (OT.ay (b := !Nat.blt a.nat M.nat) (by rw [hb]; rfl))
theorem acV : ∀ s : cC, CW s = true → ∃ m e, aB wI m s = some e ∧ (CX JG s).run = some e := by
  rintro ⟨⟨⟨⟩, ⟨⟩, ⟨⟩, ⟨⟩⟩, ⟨l, c2, l2, ⟨⟩⟩⟩ h
  have h' := of_decide_eq_true h
  dsimp only at h'
  obtain ⟨h1, h2, h3⟩ := h'
  obtain ⟨a, rfl⟩ : ∃ a, l = lst a := ⟨elemOf l, (b8 h1).symm⟩
  obtain ⟨M, rfl⟩ : ∃ a, l2 = lst a := ⟨elemOf l2, (b8 h2).symm⟩
  obtain ⟨m, hm⟩ := PK (c2 := c2) (M := M) h3 _ a rfl
  exact ⟨m, _, hm, rfl⟩
def ofP (p : Nat) (a : ag) : ag := ofN (a.nat % p)
def NH (_ : FM) : Bool := true
def aaF (x : FM) : OT gJ.Y := .br (aw x.1.1) (.ok ⟨iP, ((ofP (pS x.1.1) x.1.2.1, ()), ())⟩) (.ok ⟨iP, ((⟨0, 0, 0, 0⟩, ()), ())⟩)
theorem Ga {a : ag} {p : Nat} {m : UInt64} (hp : p = m.toNat) (hs : dz m = true) : (⟨aeJ (lst a) m, 0, 0, 0⟩ : ag) = ofP p a := by
  have hm := gD hs
  unfold ofP
  rw [NB hs, hp, kT (n := a.nat % m.toNat) (Nat.lt_trans (Nat.mod_lt _ hm) m.toNat_lt)]
theorem NS {s : Int} {a : ag} (h0 : (s == 0) = false) (h1 : (s == 1) = false) (hs : aw s = true) : (NI vo JH CW JG s a).run = some ⟨iP, ((ofP (pS s) a, ()), ())⟩ := by
  refine (OT.ay h0).trans ((OT.ay h1).trans ((OT.ax hs).trans ((aj ?_).trans rfl)))
  simp only [List.all_cons, List.all_nil, Bool.and_true, Bool.and_eq_true]
  exact ⟨decide_eq_true ⟨rfl, rfl, (F7 hs).1⟩, rfl, rfl, rfl⟩
theorem Ue : ab Try.prog 17 (gJ.aE NH aaF) := Uf vo JH CW JG acW acV _ _ fun x oy _ ho => by
  rw [← ho]
  clear ho
  obtain ⟨⟨s, a, ⟨⟩⟩, ⟨⟩⟩ := x
  rcases (Bool.eq_false_or_eq_true (aw s)).symm with hs | hs
  · obtain ⟨h0, h1, _, _⟩ := mg hs
    exact (OT.ay h0).trans ((OT.ay h1).trans ((OT.ay hs).trans (OT.ay (b := aw s) hs).symm))
  · refine Eq.trans ?_ (OT.ax (b := aw s) hs).symm
    show _ = some (⟨iP, ((ofP (pS s) a, ()), ())⟩ : gJ.Y)
    rcases b6 hs with rfl | rfl | rfl | rfl
    · rw [← Ga (a := a) (p := pS 0) (m := 16513537) (by decide +kernel) rfl]
      refine (OT.ax rfl).trans ((aj ?_).trans rfl)
      exact rfl
    · rw [← Ga (a := a) (p := pS 1) (m := 16521217) (by decide +kernel) rfl]
      refine (OT.ay rfl).trans ((OT.ax rfl).trans ((aj ?_).trans rfl))
      exact rfl
    · exact NS rfl rfl rfl
    · exact NS rfl rfl rfl
def wF : bO := (gJ.aE NH aaF)
theorem PL : ab Try.prog 17 wF := Ue
theorem PJ : aD wF := aA
def Is : Env := av 17 wF km
theorem y8 : aN Try.prog Is := ah PL ig
theorem y9 : ar Is := ac PJ qY
theorem Rv : aY Try.prog te Is := aG follows ao y8 y9
def dY : ak := ⟨[.val false .int, .val true .elem, .val true .elem], [], true, 0, false⟩
abbrev A0 : Type := ((Int) × (ag) × (ag) × Unit) × (Unit)
def bP : aq := ⟨[.val true .elem], [], false⟩
def F0 : SV → Option aq := fun _ => some bP
def JT (a0 : Int) (a1 : ag) (a2 : ag) : OT dY.Y :=
  let z0 : Bool := aw a0
  let z1 : UInt64 := EO a0
  let z2 : Bool := !z1 == (0 : UInt64)
  let z3 : Nat := pS a0
  let z4 : ag := ofP z3 a1
  let z5 := z4.w0
  let z6 : ag := ofP z3 a2
  let z7 := z6.w0
  let z8 : ag := { w0 := (z5 + z7) % z1, w1 := 0, w2 := 0, w3 := 0 }
  let z9 : ag := { w0 := (z5 + (0 : UInt64)) % z1, w1 := 0, w2 := 0, w3 := 0 }
  let z10 : ag := { w0 := ((0 : UInt64) + z7) % z1, w1 := 0, w2 := 0, w3 := 0 }
  let z11 : ag := { w0 := 0 % z1, w1 := 0, w2 := 0, w3 := 0 }
  let z12 : ag := { w0 := 0, w1 := 0, w2 := 0, w3 := 0 }
  (.br (a0 == (0 : Int))
  (.br (z0)
    (.br (z0)
      (gd [z2] (.ok ⟨bP, ((z8, ()), ())⟩))
      (gd [z2] (.ok ⟨bP, ((z9, ()), ())⟩)))
    (.br (z0)
      (gd [z2] (.ok ⟨bP, ((z10, ()), ())⟩))
      (gd [z2] (.ok ⟨bP, ((z11, ()), ())⟩))))
  (.br (a0 == (1 : Int))
    (.br (z0)
      (.br (z0)
        (gd [z2] (.ok ⟨bP, ((z8, ()), ())⟩))
        (gd [z2] (.ok ⟨bP, ((z9, ()), ())⟩)))
      (.br (z0)
        (gd [z2] (.ok ⟨bP, ((z10, ()), ())⟩))
        (gd [z2] (.ok ⟨bP, ((z11, ()), ())⟩))))
    (.br (z0)
      (.br (z0)
        (.br (z0)
          (.ok ⟨bP, ((ofP z3 (tP z4 z6).fst, ()), ())⟩)
          (.ok ⟨bP, ((z12, ()), ())⟩))
        (.br (z0)
          (.ok ⟨bP, ((ofP z3 (tP z4 z12).fst, ()), ())⟩)
          (.ok ⟨bP, ((z12, ()), ())⟩)))
      (.br (z0)
        (.br (z0)
          (.ok ⟨bP, ((ofP z3 (tP z12 z6).fst, ()), ())⟩)
          (.ok ⟨bP, ((z12, ()), ())⟩))
        (.br (z0)
          (.ok ⟨bP, ((ofP z3 z12, ()), ())⟩)
          (.ok ⟨bP, ((z12, ()), ())⟩))))))
theorem ac2 (x : A0) (Q : dY.Y → Prop) : wpf te Is az 1000 Try.f28 (dY.inp.inj x).tm (dY.inp.inj x).hp (fnK dY F0 Q) (fun _ _ => False) = (JT (x.1.1) (x.1.2.1) (x.1.2.2.1)).wpR Q := by kernel_rfl
theorem PX (pre : A0 → Bool) (F : A0 → OT dY.Y) (hF : ∀ (x : A0) oy, pre x = true → (F x).run = some oy → (JT (x.1.1) (x.1.2.1) (x.1.2.2.1)).run = some oy) : ab Try.prog 28 (dY.aE pre F) :=
  aC ao y8 Rv (f := 28) (fn := Try.f28) (c := al Try.f28) (by kernel_rfl) (by kernel_rfl) (by kernel_rfl) (S := dY) (k := 0) (by kernel_rfl) (fun R hR => ae) (n := 1000) (sel := F0) (fun v o h => by cases h; rfl) (pre := pre) (F := F) (T := fun x => JT (x.1.1) (x.1.2.1) (x.1.2.2.1)) (fun x Q => ac2 x Q) hF
theorem pP {s : Int} (h : s = 0 ∨ s = 1) : pS s = (EO s).toNat ∧ 0 < (EO s).toNat ∧ (EO s).toNat ≤ 16521217 ∧ (!(EO s == 0)) = true := by
  rcases h with rfl | rfl <;> exact ⟨by decide +kernel, by decide +kernel, by decide +kernel, rfl⟩
theorem Rq {s : Int} (h : s = 0 ∨ s = 1) (a b : ag) : (⟨((ofP (pS s) a).w0 + (ofP (pS s) b).w0) % EO s, 0, 0, 0⟩ : ag) = th (pS s) a b := by
  obtain ⟨hp, h0, h1, _⟩ := pP h
  rw [hp]
  generalize EO s = m at *
  have ha := Nat.mod_lt a.nat h0
  have hb := Nat.mod_lt b.nat h0
  have hc := Nat.mod_lt (a.nat + b.nat) h0
  unfold th
  rw [kT (by omega)]
  have e : ((ofP m.toNat a).w0 + (ofP m.toNat b).w0) % m = UInt64.ofNat ((a.nat + b.nat) % m.toNat) := by
    show (UInt64.ofNat (a.nat % m.toNat) + UInt64.ofNat (b.nat % m.toNat)) % m = _
    rw [← UInt64.toNat_inj, UInt64.toNat_mod, UInt64.toNat_add, UInt64.toNat_ofNat', UInt64.toNat_ofNat', UInt64.toNat_ofNat', Nat.mod_eq_of_lt (a := a.nat % m.toNat) (by omega), Nat.mod_eq_of_lt (a := b.nat % m.toNat) (by omega),
      Nat.mod_eq_of_lt (a := a.nat % m.toNat + b.nat % m.toNat) (by omega), Nat.mod_eq_of_lt (a := (a.nat + b.nat) % m.toNat) (by omega), ← Nat.add_mod]
  rw [e]
def wT (x : A0) : Bool := aw x.1.1
def Um (x : A0) : OT dY.Y := .ok ⟨bP, ((th (pS x.1.1) x.1.2.1 x.1.2.2.1, ()), ())⟩
theorem Y2 : ab Try.prog 28 (dY.aE wT Um) := PX _ _ fun x oy hp ho => by
  rw [← ho]
  clear ho
  obtain ⟨⟨s, a, b, ⟨⟩⟩, ⟨⟩⟩ := x
  have hs : aw s = true := hp
  show _ = some (⟨bP, ((th (pS s) a b, ()), ())⟩ : dY.Y)
  have little : (s = 0 ∨ s = 1) → (gd [!(EO s == 0)] (.ok ⟨bP, ((⟨((ofP (pS s) a).w0 + (ofP (pS s) b).w0) % EO s, 0, 0, 0⟩, ()), ())⟩) : OT dY.Y).run = some (⟨bP, ((th (pS s) a b, ()), ())⟩ : dY.Y) := fun h => by
    obtain ⟨_, _, _, hz⟩ := pP h
    rw [Rq h]
    exact aj (by simp only [hz, List.all_cons, List.all_nil, Bool.and_true])
  by_cases h0 : s = 0
  · exact (OT.ax (by simpa using h0)).trans ((OT.ax hs).trans ((OT.ax hs).trans (little (.inl h0))))
  · refine (OT.ay (by simpa using h0)).trans ?_
    by_cases h1 : s = 1
    · exact (OT.ax (by simpa using h1)).trans ((OT.ax hs).trans ((OT.ax hs).trans (little (.inr h1))))
    · refine (OT.ay (by simpa using h1)).trans ((OT.ax hs).trans ((OT.ax hs).trans ((OT.ax hs).trans ?_)))
      have e : ofP (pS s) (tP (ofP (pS s) a) (ofP (pS s) b)).1 = th (pS s) a b := WW (F7 hs) a b
      show some (⟨bP, ((ofP (pS s) (tP (ofP (pS s) a) (ofP (pS s) b)).1, ()), ())⟩ : dY.Y) = _
      rw [e]
def sn : bO := (dY.aE wT Um)
theorem JS : ab Try.prog 28 sn := Y2
theorem JR : aD sn := aA
def tB : Env := av 28 sn Is
theorem nn : aN Try.prog tB := ah JS y8
theorem uK : ar tB := ac JR y9
theorem zc : aY Try.prog te tB := aG follows ao nn uK
def dX : ak := ⟨[.val false .int, .val true .elem, .val true .elem], [], true, 0, false⟩
abbrev AU : Type := ((Int) × (ag) × (ag) × Unit) × (Unit)
def pF : Shape := ⟨80, [(4, .ptr 0 0 0), (5, .ptr 1 0 0), (6, .ptr 2 0 0), (7, .ptr 3 0 0), (9, .ptr 4 0 0), (10, .val false .int)], [(0, .row .u64), (1, .row .u64), (2, .row .u64), (3, .row .u64), (4, .row .u64)], 0, true⟩
abbrev bn : Type := ((Unit) × (Unit) × (Unit) × (Unit) × (Unit) × (Int) × Unit) × ((List (UInt64)) × (List (UInt64)) × (List (UInt64)) × (List (UInt64)) × (List (UInt64)) × Unit)
def mo : Shape := ⟨80, [(6, .ptr 0 0 0), (9, .ptr 1 0 0)], [(0, .row .u64), (1, .row .u64)], 0, true⟩
abbrev gK : Type := ((Unit) × (Unit) × Unit) × ((List (UInt64)) × (List (UInt64)) × Unit)
def NJ : SE → Option Shape := nt [(0, mo)] none
def CZ (a10 : Int) (c0 : List (UInt64)) (c1 : List (UInt64)) (c2 : List (UInt64)) (c3 : List (UInt64)) (c4 : List (UInt64)) : OT (Sum bn aS) :=
  let z0 : Nat := List.length c4
  let z1 : Bool := decide (4 ≤ z0)
  let z2 : ag := { w0 := List.getD c4 0 0, w1 := List.getD c4 1 0, w2 := List.getD c4 2 0, w3 := List.getD c4 3 0 }
  let z3 := (tP z2 z2).fst
  let z4 : List UInt64 := List.set (List.set (List.set (List.set c4 0 z3.w0) 1 z3.w1) 2 z3.w2) 3 z3.w3
  let z5 : Nat := List.length z4
  let z6 : Bool := decide (4 ≤ z5)
  let z7 : Bool := decide (4 ≤ List.length c3)
  let z8 : ag := { w0 := List.getD z4 0 0, w1 := List.getD z4 1 0, w2 := List.getD z4 2 0, w3 := List.getD z4 3 0 }
  let z9 : ag := { w0 := List.getD c3 0 0, w1 := List.getD c3 1 0, w2 := List.getD c3 2 0, w3 := List.getD c3 3 0 }
  let z10 : Nat := ag.nat z9
  let z11 : Int := Int.tdiv a10 (64 : Int)
  let z12 : Bool := true && inR z11
  let z13 : Bool := inB z11 4
  let z14 : Bool := decide (Int.toNat z11 + 0 < List.length c1)
  let z15 := (nu z8 z9).fst
  let z16 : List UInt64 := List.set (List.set (List.set (List.set z4 0 z15.w0) 1 z15.w1) 2 z15.w2) 3 z15.w3
  let z17 : Nat := List.length z16
  let z18 : Bool := decide (4 ≤ List.length c0)
  let z19 : ag := { w0 := List.getD c0 0 0, w1 := List.getD c0 1 0, w2 := List.getD c0 2 0, w3 := List.getD c0 3 0 }
  let z20 : ag := (tP { w0 := List.getD z16 0 0, w1 := List.getD z16 1 0, w2 := List.getD z16 2 0, w3 := List.getD z16 3 0 } z19).fst
  let z21 : List UInt64 := List.set (List.set (List.set (List.set z16 0 z20.w0) 1 z20.w1) 2 z20.w2) 3 z20.w3
  let z22 : Nat := List.length z21
  let z23 : Bool := decide (4 ≤ z22)
  let z24 : ag := { w0 := List.getD z21 0 0, w1 := List.getD z21 1 0, w2 := List.getD z21 2 0, w3 := List.getD z21 3 0 }
  let z25 : Bool := inR (a10 - (1 : Int))
  let z26 := (nu z24 z9).fst
  let z27 := (tP z8 z19).fst
  let z28 : List UInt64 := List.set (List.set (List.set (List.set z4 0 z27.w0) 1 z27.w1) 2 z27.w2) 3 z27.w3
  let z29 : Nat := List.length z28
  let z30 : Bool := decide (4 ≤ z29)
  let z31 : ag := { w0 := List.getD z28 0 0, w1 := List.getD z28 1 0, w2 := List.getD z28 2 0, w3 := List.getD z28 3 0 }
  let z32 := (nu z31 z9).fst
  (.br (decide ((0 : Int) ≤ a10))
  (gd [z1, z1, decide ((4 / 1 : Nat) + 0 ≤ z0), z6, z7] (.br (!Nat.blt (ag.nat z8) z10)
    (gd [z6, z7, decide ((4 / 1 : Nat) + 0 ≤ z5), z12, z13, z14] (.br (aP (List.getD c1 (Int.toNat z11 + 0) (0 : UInt64)) (↑(UInt64.toNat (i2u (Int.tmod a10 (64 : Int)))) : Int) &&& (1 : UInt64) == (1 : UInt64))
      (gd [decide (4 ≤ z17), z18, decide ((4 / 1 : Nat) + 0 ≤ z17), z23, z7] (.br (!Nat.blt (ag.nat z24) z10)
        (gd [z23, z7, decide ((4 / 1 : Nat) + 0 ≤ z22), z25] (.ok (.inl (((), ((), ((), ((), ((), (a10 - (1 : Int), ())))))), (c0, (c1, (c2, (c3, (List.set (List.set (List.set (List.set z21 0 z26.w0) 1 z26.w1) 2 z26.w2) 3 z26.w3, ())))))))))
        (gd [z25] (.ok (.inl (((), ((), ((), ((), ((), (a10 - (1 : Int), ())))))), (c0, (c1, (c2, (c3, (z21, ())))))))))))
      (gd [z25] (.ok (.inl (((), ((), ((), ((), ((), (a10 - (1 : Int), ())))))), (c0, (c1, (c2, (c3, (z16, ())))))))))))
    (gd [z12, z13, z14] (.br (aP (List.getD c1 (Int.toNat z11 + 0) (0 : UInt64)) (↑(UInt64.toNat (i2u (Int.tmod a10 (64 : Int)))) : Int) &&& (1 : UInt64) == (1 : UInt64))
      (gd [z6, z18, decide ((4 / 1 : Nat) + 0 ≤ z5), z30, z7] (.br (!Nat.blt (ag.nat z31) z10)
        (gd [z30, z7, decide ((4 / 1 : Nat) + 0 ≤ z29), z25] (.ok (.inl (((), ((), ((), ((), ((), (a10 - (1 : Int), ())))))), (c0, (c1, (c2, (c3, (List.set (List.set (List.set (List.set z28 0 z32.w0) 1 z32.w1) 2 z32.w2) 3 z32.w3, ())))))))))
        (gd [z25] (.ok (.inl (((), ((), ((), ((), ((), (a10 - (1 : Int), ())))))), (c0, (c1, (c2, (c3, (z28, ())))))))))))
      (gd [z25] (.ok (.inl (((), ((), ((), ((), ((), (a10 - (1 : Int), ())))))), (c0, (c1, (c2, (c3, (z4, ())))))))))))))
  (.ok (.inr ⟨(.exit 0, mo), (((), ((), ())), (c2, (c4, ())))⟩)))
def mq (s : bn) : OT (Sum bn aS) := CZ (s.1.2.2.2.2.2.1) (s.2.1) (s.2.2.1) (s.2.2.2.1) (s.2.2.2.2.1) (s.2.2.2.2.2.1)
theorem YY (s : bn) (Q : Sum bn aS → Prop) : wps te tB az 1000 (bM (al Try.f30) 0) (pF.inj s) (dm pF NJ (Q : Sum pF.T aS → Prop)) = (mq s).wpR Q := by kernel_rfl
def vp (g0_0 : bn → gK) (s : bn) : OT aS := (.ok ⟨(.exit 0, mo), g0_0 s⟩)
def cg : aq := ⟨[.val true .elem], [], false⟩
def FN : SV → Option aq := fun _ => some cg
def JK (ok0 : bn → Bool) (g0_0 : bn → gK) (a0 : Int) (a1 : ag) (a2 : ag) : OT dX.Y :=
  let z0 : Bool := aw a0
  let z1 : UInt64 := EO a0
  let z2 : Bool := !z1 == (0 : UInt64)
  let z3 : Nat := pS a0
  let z4 : ag := ofP z3 a1
  let z5 := z4.w0
  let z6 : ag := ofP z3 a2
  let z7 := z6.w0
  let z8 : ag := { w0 := z5 * z7 % z1, w1 := 0, w2 := 0, w3 := 0 }
  let z9 : ag := { w0 := z5 * (0 : UInt64) % z1, w1 := 0, w2 := 0, w3 := 0 }
  let z10 : ag := { w0 := 0 * z7 % z1, w1 := 0, w2 := 0, w3 := 0 }
  let z11 : ag := { w0 := 0 % z1, w1 := 0, w2 := 0, w3 := 0 }
  let z12 : PUnit × PUnit × PUnit × PUnit × PUnit × Int × PUnit := ((), (), (), (), (), (255 : Int), ())
  let z13 : ag := (cI (Int.toNat a0)).fst
  let z14 : List UInt64 × List UInt64 × List UInt64 × PUnit := ([(0 : UInt64), (0 : UInt64), (0 : UInt64), (0 : UInt64)], [z13.w0, z13.w1, z13.w2, z13.w3], [(0 : UInt64), (0 : UInt64), (0 : UInt64), (0 : UInt64)], ())
  let z15 : List UInt64 × List UInt64 × List UInt64 × List UInt64 × PUnit := ([z7, z6.w1, z6.w2, z6.w3], z14)
  let z16 : (PUnit × PUnit × PUnit × PUnit × PUnit × Int × PUnit) × List UInt64 × List UInt64 × List UInt64 × List UInt64 × List UInt64 × PUnit := (z12, [z5, z4.w1, z4.w2, z4.w3], z15)
  let z17 := (g0_0 z16).snd
  let z18 := z17.snd.fst
  let z19 := z17.fst
  let z20 : List UInt64 := lay z19 z18 4 (0 : UInt64)
  let z21 : List UInt64 × List UInt64 × List UInt64 × List UInt64 × PUnit := ([(0 : UInt64), (0 : UInt64), (0 : UInt64), (0 : UInt64)], z14)
  let z22 : (PUnit × PUnit × PUnit × PUnit × PUnit × Int × PUnit) × List UInt64 × List UInt64 × List UInt64 × List UInt64 × List UInt64 × PUnit := (z12, [z5, z4.w1, z4.w2, z4.w3], z21)
  let z23 := (g0_0 z22).snd
  let z24 := z23.snd.fst
  let z25 := z23.fst
  let z26 : List UInt64 := lay z25 z24 4 (0 : UInt64)
  let z27 : (PUnit × PUnit × PUnit × PUnit × PUnit × Int × PUnit) × List UInt64 × List UInt64 × List UInt64 × List UInt64 × List UInt64 × PUnit := (z12, [(0 : UInt64), (0 : UInt64), (0 : UInt64), (0 : UInt64)], z15)
  let z28 := (g0_0 z27).snd
  let z29 := z28.snd.fst
  let z30 := z28.fst
  let z31 : List UInt64 := lay z30 z29 4 (0 : UInt64)
  let z32 : (PUnit × PUnit × PUnit × PUnit × PUnit × Int × PUnit) × List UInt64 × List UInt64 × List UInt64 × List UInt64 × List UInt64 × PUnit := (z12, [(0 : UInt64), (0 : UInt64), (0 : UInt64), (0 : UInt64)], z21)
  let z33 := (g0_0 z32).snd
  let z34 := z33.snd.fst
  let z35 := z33.fst
  let z36 : List UInt64 := lay z35 z34 4 (0 : UInt64)
  (.br (a0 == (0 : Int))
  (.br (z0)
    (.br (z0)
      (gd [z2] (.ok ⟨cg, ((z8, ()), ())⟩))
      (gd [z2] (.ok ⟨cg, ((z9, ()), ())⟩)))
    (.br (z0)
      (gd [z2] (.ok ⟨cg, ((z10, ()), ())⟩))
      (gd [z2] (.ok ⟨cg, ((z11, ()), ())⟩))))
  (.br (a0 == (1 : Int))
    (.br (z0)
      (.br (z0)
        (gd [z2] (.ok ⟨cg, ((z8, ()), ())⟩))
        (gd [z2] (.ok ⟨cg, ((z9, ()), ())⟩)))
      (.br (z0)
        (gd [z2] (.ok ⟨cg, ((z10, ()), ())⟩))
        (gd [z2] (.ok ⟨cg, ((z11, ()), ())⟩))))
    (.br (z0)
      (.br (z0)
        (.br (z0)
          (gd [ok0 z16, decide (4 ≤ List.length z18), decide ((4 / 1 : Nat) + 0 ≤ List.length z19), decide (4 ≤ List.length z20)] (.ok ⟨cg, (({ w0 := List.getD z20 0 0, w1 := List.getD z20 1 0, w2 := List.getD z20 2 0, w3 := List.getD z20 3 0 }, ()), ())⟩))
          (gd [ok0 z22, decide (4 ≤ List.length z24), decide ((4 / 1 : Nat) + 0 ≤ List.length z25), decide (4 ≤ List.length z26)] (.ok ⟨cg, (({ w0 := List.getD z26 0 0, w1 := List.getD z26 1 0, w2 := List.getD z26 2 0, w3 := List.getD z26 3 0 }, ()), ())⟩)))
        (.br (z0)
          (gd [ok0 z27, decide (4 ≤ List.length z29), decide ((4 / 1 : Nat) + 0 ≤ List.length z30), decide (4 ≤ List.length z31)] (.ok ⟨cg, (({ w0 := List.getD z31 0 0, w1 := List.getD z31 1 0, w2 := List.getD z31 2 0, w3 := List.getD z31 3 0 }, ()), ())⟩))
          (gd [ok0 z32, decide (4 ≤ List.length z34), decide ((4 / 1 : Nat) + 0 ≤ List.length z35), decide (4 ≤ List.length z36)] (.ok ⟨cg, (({ w0 := List.getD z36 0 0, w1 := List.getD z36 1 0, w2 := List.getD z36 2 0, w3 := List.getD z36 3 0 }, ()), ())⟩))))
      (.ok ⟨cg, (({ w0 := 0, w1 := 0, w2 := 0, w3 := 0 }, ()), ())⟩))))
theorem acZ (ok0 : bn → Bool) (g0_0 : bn → gK) (x : AU) (Q : dX.Y → Prop) : wpf te tB (bK 0 (dZ pF 0 ok0 (vp g0_0)) az) 1000 Try.f30 (dX.inp.inj x).tm (dX.inp.inj x).hp (fnK dX FN Q) (fun _ _ => False) = (JK ok0 g0_0 (x.1.1) (x.1.2.1) (x.1.2.2.1)).wpR Q := by kernel_rfl
theorem PM (ok0 : bn → Bool) (g0_0 : bn → gK) (h0 : ∀ s : bn, ok0 s = true → ∃ m e, aB (mq) m s = some e ∧ (vp g0_0 s).run = some e) (pre : AU → Bool) (F : AU → OT dX.Y) (hF : ∀ (x : AU) oy, pre x = true → (F x).run = some oy → (JK ok0 g0_0 (x.1.1) (x.1.2.1) (x.1.2.2.1)).run = some oy) : ab Try.prog 30 (dX.aE pre F) :=
  aC ao nn zc (f := 30) (fn := Try.f30) (c := al Try.f30) (by kernel_rfl) (by kernel_rfl) (by kernel_rfl) (S := dX) (k := 0) (by kernel_rfl) (fun R hR => (aL (c := (al Try.f30)) (by kernel_rfl) (id := 0) (by kernel_rfl) (bJ ao nn zc (sh := pF) hR (xs := NJ) (aI (by kernel_rfl) (by kernel_rfl) hR) bk ae (n := 1000) (T := mq) (fun s Q => YY s Q) (ok := ok0) (f := vp g0_0) h0) ae)) (n := 1000) (sel := FN) (fun v o h => by cases h; rfl) (pre := pre) (F := F) (T := fun x => JK ok0 g0_0 (x.1.1) (x.1.2.1) (x.1.2.2.1)) (fun x Q => acZ ok0 g0_0 x Q) hF
theorem P2 {s : Int} (h : s = 0 ∨ s = 1) (a b : ag) : (⟨(ofP (pS s) a).w0 * (ofP (pS s) b).w0 % EO s, 0, 0, 0⟩ : ag) = pL (pS s) a b := by
  obtain ⟨hp, h0, h1, _⟩ := pP h
  rw [hp]
  generalize EO s = m at *
  have ha := Nat.mod_lt a.nat h0
  have hb := Nat.mod_lt b.nat h0
  have hc := Nat.mod_lt (a.nat * b.nat) h0
  have hab : a.nat % m.toNat * (b.nat % m.toNat) < 18446744073709551616 := by
    have : a.nat % m.toNat * (b.nat % m.toNat) ≤ 16521217 * 16521217 := Nat.mul_le_mul (by omega) (by omega)
    omega
  unfold pL
  rw [kT (n := a.nat * b.nat % m.toNat) (by omega)]
  have e : (ofP m.toNat a).w0 * (ofP m.toNat b).w0 % m = UInt64.ofNat (a.nat * b.nat % m.toNat) := by
    show UInt64.ofNat (a.nat % m.toNat) * UInt64.ofNat (b.nat % m.toNat) % m = _
    rw [← UInt64.toNat_inj, UInt64.toNat_mod, UInt64.toNat_mul, UInt64.toNat_ofNat', UInt64.toNat_ofNat', UInt64.toNat_ofNat', Nat.mod_eq_of_lt (a := a.nat % m.toNat) (by omega), Nat.mod_eq_of_lt (a := b.nat % m.toNat) (by omega),
      Nat.mod_eq_of_lt (a := a.nat % m.toNat * (b.nat % m.toNat)) (by omega), Nat.mod_eq_of_lt (a := a.nat * b.nat % m.toNat) (by omega), ← Nat.mul_mod]
  rw [e]
def qh (p a b : Nat) (n o : Nat) : Nat := cond (aek b (255 - n)) ((2 * o % p + a) % p) (2 * o % p)
theorem VX (p a b : Nat) (hb : b < 2 ^ 256) : ∀ n, n ≤ 256 → upto (qh p a b) 0 n = a * (b / 2 ^ (256 - n)) % p
  | 0, _ => by
    show 0 = _
    rw [Nat.div_eq_of_lt (by exact hb), Nat.mul_zero, Nat.zero_mod]
  | n + 1, hn => by
    show qh p a b n (upto (qh p a b) 0 n) = _
    rw [VX p a b hb n (by omega)]
    have e1 : 256 - n = (255 - n) + 1 := by omega
    have e2 : 256 - (n + 1) = 255 - n := by omega
    rw [e1, e2, Nat.pow_succ, ← Nat.div_div_eq_div_mul]
    unfold qh aek
    generalize b / 2 ^ (255 - n) = q
    have hd : 2 * (a * (q / 2) % p) % p = a * (2 * (q / 2)) % p := by
      rw [Nat.mul_mod, Nat.mod_mod, ← Nat.mul_mod, Nat.mul_left_comm]
    cases hq : Nat.beq (q % 2) 1
    · simp only [cond_false]
      have : ¬ q % 2 = 1 := fun e => by rw [e] at hq; cases hq
      rw [hd, show 2 * (q / 2) = q by omega]
    · have hq := Nat.eq_of_beq_eq_true hq
      simp only [cond_true]
      rw [hd, Nat.mod_add_mod]
      have e3 : a * (2 * (q / 2)) + a = a * q := by
        rw [← Nat.mul_succ, show (2 * (q / 2)).succ = q by omega]
      rw [e3]
theorem aeL {z M : ag} (h : Nat.blt z.nat M.nat = true) : z = ofN (z.nat % M.nat) := by
  rw [Nat.mod_eq_of_lt (cK h), C8]
theorem Uz {n m : Nat} (h : Nat.blt n m = false) : m ≤ n := by
  rcases Nat.lt_or_ge n m with h' | h'
  · have : Nat.blt n m = true := Nat.ble_eq_true_of_le h'
    rw [this] at h; cases h
  · exact h'
theorem aeK {z M : ag} (h : Nat.blt z.nat M.nat = false) (h2 : z.nat < 2 * M.nat) : (nu z M).1 = ofN (z.nat % M.nat) := by
  have hle := Uz h
  have hz := jg z
  apply ob
  rw [o6 hle, Nat.mod_eq_sub_mod hle, Nat.mod_eq_of_lt (by omega), iQ (by omega)]
theorem sum_nat {a b : ag} (h : a.nat + b.nat < 115792089237316195423570985008687907853269984665640564039457584007913129639936) : (tP a b).1.nat = a.nat + b.nat := iQ h
theorem UW {k : Nat} (hk : k < 64) : (((i2u (k : Int)).toNat : Nat) : Int) = (k : Int) := by
  unfold i2u
  rw [UInt64.toNat_ofNat']
  omega
theorem afg {b : ag} {n : Nat} (hn : n < 256) : (aP (List.getD (lst b) (Int.toNat (Int.tdiv (255 - (n : Int)) 64) + 0) 0) (((i2u (Int.tmod (255 - (n : Int)) 64)).toNat : Nat) : Int) &&& 1 == 1) = aek b.nat (255 - n) := by
  have t0 : (255 : Int) - (n : Int) = ((255 - n : Nat) : Int) := by omega
  rw [t0]
  generalize hk : 255 - n = k
  have hk2 : k < 256 := by omega
  have t1 : Int.tdiv (k : Int) 64 = ((k / 64 : Nat) : Int) := by rw [Int.tdiv_eq_ediv_of_nonneg (by omega)]; omega
  have t2 : Int.tmod (k : Int) 64 = ((k % 64 : Nat) : Int) := by rw [Int.tmod_eq_emod_of_nonneg (by omega)]; omega
  rw [t1, t2, UW (by omega), ad5, dp _ _ (by omega), Int.toNat_natCast, Nat.add_zero]
  have := OX (a := b) (q := k / 64) (r := k % 64) (by omega) (by omega)
  rw [show 64 * (k / 64) + k % 64 = k by omega] at this
  unfold aek
  rw [← this]
theorem af8 (e f : ag) : List.set (List.set (List.set (List.set (lst e) 0 f.w0) 1 f.w1) 2 f.w2) 3 f.w3 = lst f := rfl
theorem agh (e : ag) : (⟨List.getD (lst e) 0 0, List.getD (lst e) 1 0, List.getD (lst e) 2 0, List.getD (lst e) 3 0⟩ : ag) = e := rfl
def VY (A B : ag) (c2 : List UInt64) (M : ag) (n o : Nat) : bn := (((), (), (), (), (), 255 - (n : Int), ()), (lst A, lst B, c2, lst M, lst (ofN o), ()))
theorem adQ {A B M : ag} {c2 : List UInt64} {n o : Nat} (hn : n < 256) (hA : A.nat < M.nat) (ho : o < M.nat) (hM : 2 * M.nat ≤ 115792089237316195423570985008687907853269984665640564039457584007913129639936) :
    (mq (VY A B c2 M n o)).run = some (.inl (VY A B c2 M (n + 1) (qh M.nat A.nat B.nat n o))) := by
  have e2 : (255 : Int) - (n : Int) - 1 = 255 - ((n + 1 : Nat) : Int) := by omega
  have hO : (ofN o).nat = o := iQ (by omega)
  have hz : (tP (ofN o) (ofN o)).1.nat = 2 * o := by rw [sum_nat (by omega), hO]; omega
  have hbit := afg (b := B) hn
  have t0 : (255 : Int) - (n : Int) = ((255 - n : Nat) : Int) := by omega
  have t1 : Int.tdiv (255 - (n : Int)) 64 = (((255 - n) / 64 : Nat) : Int) := by rw [t0, Int.tdiv_eq_ediv_of_nonneg (by omega)]; omega
  have gb : ∀ z : OT (Sum bn aS), (gd [true && inR (Int.tdiv (255 - (n : Int)) 64), inB (Int.tdiv (255 - (n : Int)) 64) 4, decide (Int.toNat (Int.tdiv (255 - (n : Int)) 64) + 0 < (lst B).length)] z).run = z.run := fun z => aj (by
    simp only [t1, Int.toNat_natCast, Nat.add_zero, ee, List.all_cons, List.all_nil, Bool.and_true, Bool.true_and, Bool.and_eq_true]
    exact ⟨aX (by omega), aQ (by omega), decide_eq_true (by omega)⟩)
  have gb2 : ∀ z : OT (Sum bn aS), (gd [true, true, true, true && inR (Int.tdiv (255 - (n : Int)) 64), inB (Int.tdiv (255 - (n : Int)) 64) 4, decide (Int.toNat (Int.tdiv (255 - (n : Int)) 64) + 0 < (lst B).length)] z).run = z.run := fun z => aj (by
    simp only [t1, Int.toNat_natCast, Nat.add_zero, ee, List.all_cons, List.all_nil, Bool.and_true, Bool.true_and, Bool.and_eq_true]
    exact ⟨aX (by omega), aQ (by omega), decide_eq_true (by omega)⟩)
  have hi : inR ((255 : Int) - (n : Int) - 1) = true := aX (by omega)
  have gi : ∀ z : OT (Sum bn aS), (gd [inR ((255 : Int) - (n : Int) - 1)] z).run = z.run := fun z => aj (by simp only [hi, List.all_cons, List.all_nil, Bool.and_true])
  have gi2 : ∀ z : OT (Sum bn aS), (gd [true, true, true, inR ((255 : Int) - (n : Int) - 1)] z).run = z.run := fun z => aj (by simp only [hi, List.all_cons, List.all_nil, Bool.and_true])
  -- behind the doubling
  have tail : ∀ D : ag, D = ofN (2 * o % M.nat) →
      (OT.br (aP (List.getD (lst B) (Int.toNat (Int.tdiv (255 - (n : Int)) 64) + 0) 0) (((i2u (Int.tmod (255 - (n : Int)) 64)).toNat : Nat) : Int) &&& 1 == 1)
        (gd [true, true, true, true, true] (OT.br (!Nat.blt (tP D A).1.nat M.nat)
          (gd [true, true, true, inR ((255 : Int) - (n : Int) - 1)] (.ok (.inl (((), (), (), (), (), (255 : Int) - (n : Int) - 1, ()), (lst A, lst B, c2, lst M, lst (nu (tP D A).1 M).1, ())))))
          (gd [inR ((255 : Int) - (n : Int) - 1)] (.ok (.inl (((), (), (), (), (), (255 : Int) - (n : Int) - 1, ()), (lst A, lst B, c2, lst M, lst (tP D A).1, ())))))))
        (gd [inR ((255 : Int) - (n : Int) - 1)] (.ok (.inl (((), (), (), (), (), (255 : Int) - (n : Int) - 1, ()), (lst A, lst B, c2, lst M, lst D, ()))))) : OT (Sum bn aS)).run
      = some (.inl (VY A B c2 M (n + 1) (qh M.nat A.nat B.nat n o))) := fun D hD => by
    rw [hbit, e2]
    rw [e2] at gi gi2
    have hlt := Nat.mod_lt (2 * o) (show 0 < M.nat by omega)
    have hDn : D.nat = 2 * o % M.nat := by rw [hD]; exact iQ (by omega)
    have hw : (tP D A).1.nat = 2 * o % M.nat + A.nat := by rw [sum_nat (by omega), hDn]
    unfold qh
    rcases (Bool.eq_false_or_eq_true (aek B.nat (255 - n))).symm with hb | hb
    · rw [hb, hD]
      exact (OT.ay rfl).trans (gi _)
    · rw [hb]
      refine (OT.ax rfl).trans ((aj rfl).trans ?_)
      rcases (Bool.eq_false_or_eq_true (Nat.blt (tP D A).1.nat M.nat)).symm with hc | hc
      · have er := aeK hc (by omega)
        rw [hw] at er
        refine (OT.ax (by rw [hc]; rfl)).trans ((gi2 _).trans ?_)
        rw [er]
        rfl
      · have er := aeL hc
        rw [hw] at er
        refine (OT.ay (by rw [hc]; rfl)).trans ((gi _).trans ?_)
        rw [er]
        rfl
  show (CZ (255 - (n : Int)) (lst A) (lst B) c2 (lst M) (lst (ofN o))).run = _
  unfold CZ
  simp only [af8, agh, ee]
  refine (OT.ax (decide_eq_true (by omega))).trans ((aj rfl).trans ?_)
  rcases (Bool.eq_false_or_eq_true (Nat.blt (tP (ofN o) (ofN o)).1.nat M.nat)).symm with hc | hc
  · have er := aeK hc (by omega)
    rw [hz] at er
    exact (OT.ax (b := !Nat.blt (tP (ofN o) (ofN o)).1.nat M.nat) (by rw [hc]; rfl)).trans ((gb2 _).trans (tail _ er))
  · have er := aeL hc
    rw [hz] at er
    exact (OT.ay (b := !Nat.blt (tP (ofN o) (ofN o)).1.nat M.nat) (by rw [hc]; rfl)).trans ((gb _).trans (tail _ er))
def FO (s : bn) : Bool := decide (s.1.2.2.2.2.2.1 = 255 ∧ s.2.1.length = 4 ∧ s.2.2.1.length = 4 ∧ s.2.2.2.2.1.length = 4 ∧ s.2.2.2.2.2.1 = [0, 0, 0, 0] ∧ (elemOf s.2.1).nat < (elemOf s.2.2.2.2.1).nat ∧ 2 * (elemOf s.2.2.2.2.1).nat ≤ 115792089237316195423570985008687907853269984665640564039457584007913129639936)
def NK (s : bn) : gK := (((), (), ()), (s.2.2.2.1, lst (ofN ((elemOf s.2.1).nat * (elemOf s.2.2.1).nat % (elemOf s.2.2.2.2.1).nat)), ()))
theorem Y0 : ∀ s : bn, FO s = true → ∃ m e, aB mq m s = some e ∧ (vp NK s).run = some e := by
  rintro ⟨⟨⟨⟩, ⟨⟩, ⟨⟩, ⟨⟩, ⟨⟩, i, ⟨⟩⟩, ⟨l0, l1, c2, l3, l4, ⟨⟩⟩⟩ h
  have h' := of_decide_eq_true h
  dsimp only at h'
  obtain ⟨rfl, h0, h1, h3, rfl, hA, hM⟩ := h'
  obtain ⟨A, rfl⟩ : ∃ a, l0 = lst a := ⟨elemOf l0, (b8 h0).symm⟩
  obtain ⟨B, rfl⟩ : ∃ a, l1 = lst a := ⟨elemOf l1, (b8 h1).symm⟩
  obtain ⟨M, rfl⟩ : ∃ a, l3 = lst a := ⟨elemOf l3, (b8 h3).symm⟩
  have hA : A.nat < M.nat := hA
  have := (bt (T := mq) (VY A B c2 M) (qh M.nat A.nat B.nat)
    (fun o => (⟨(.exit 0, mo), (((), (), ()), (c2, lst (ofN o), ()))⟩ : aS)) 256 0 (fun _ o => o < M.nat) (by omega) (fun n o hn ho => ⟨adQ hn hA ho hM, ?_⟩) (fun o ho => ?_)).1
  · rw [VX M.nat A.nat B.nat (jg B) 256 (by omega), Nat.sub_self, Nat.pow_zero, Nat.div_one] at this
    obtain ⟨m, hm⟩ := this
    exact ⟨m, _, hm, rfl⟩
  · unfold qh
    cases aek B.nat (255 - n)
    · exact Nat.mod_lt _ (by omega)
    · exact Nat.mod_lt _ (by omega)
  · exact OT.ay (decide_eq_false (by dsimp only [VY]; omega))
def kL (x : AU) : Bool := aw x.1.1
def Ug (x : AU) : OT dX.Y := .ok ⟨cg, ((pL (pS x.1.1) x.1.2.1 x.1.2.2.1, ()), ())⟩
theorem UC {s : Int} (hs : aw s = true) (a b : ag) : ofN ((ofP (pS s) a).nat * (ofP (pS s) b).nat % pS s) = pL (pS s) a b := by
  have hp := F7 hs
  unfold ofP pL
  rw [jT hp, jT hp, ← Nat.mul_mod]
theorem YZ : ab Try.prog 30 (dX.aE kL Ug) := PM FO NK Y0 _ _ fun x oy hp ho => by
  rw [← ho]
  clear ho
  obtain ⟨⟨s, a, b, ⟨⟩⟩, ⟨⟩⟩ := x
  have hs : aw s = true := hp
  show _ = some (⟨cg, ((pL (pS s) a b, ()), ())⟩ : dX.Y)
  have little : (s = 0 ∨ s = 1) → (gd [!(EO s == 0)] (.ok ⟨cg, ((⟨(ofP (pS s) a).w0 * (ofP (pS s) b).w0 % EO s, 0, 0, 0⟩, ()), ())⟩) : OT dX.Y).run = some (⟨cg, ((pL (pS s) a b, ()), ())⟩ : dX.Y) := fun h => by
    obtain ⟨_, _, _, hz⟩ := pP h
    rw [P2 h]
    exact aj (by simp only [hz, List.all_cons, List.all_nil, Bool.and_true])
  by_cases h0 : s = 0
  · exact (OT.ax (by simpa using h0)).trans ((OT.ax hs).trans ((OT.ax hs).trans (little (.inl h0))))
  · refine (OT.ay (by simpa using h0)).trans ?_
    by_cases h1 : s = 1
    · exact (OT.ax (by simpa using h1)).trans ((OT.ax hs).trans ((OT.ax hs).trans (little (.inr h1))))
    · refine (OT.ay (by simpa using h1)).trans ((OT.ax hs).trans ((OT.ax hs).trans ((OT.ax hs).trans ?_)))
      have hpp := F7 hs
      have hA : (ofP (pS s) a).nat < pS s := by
        show (ofN _).nat < _
        rw [jT hpp]
        exact Nat.mod_lt _ hpp.1
      refine (aj ?_).trans ?_
      · simp only [List.all_cons, List.all_nil, Bool.and_true, Bool.and_eq_true]
        exact ⟨decide_eq_true ⟨rfl, rfl, rfl, rfl, rfl, hA, (by show 2 * pS s ≤ _; omega)⟩, rfl, rfl, rfl⟩
      · rw [← UC hs]
        show some (⟨cg, ((elemOf (lay [0, 0, 0, 0] (lst (ofN ((ofP (pS s) a).nat * (ofP (pS s) b).nat % pS s))) 4 0), ()), ())⟩ : dX.Y) = _
        rw [age _ _ rfl rfl]
        rfl
def sd : bO := (dX.aE kL Ug)
theorem JJ : ab Try.prog 30 sd := YZ
theorem JI : aD sd := aA
def LG : Env := av 30 sd tB
theorem Rw : aN Try.prog LG := ah JJ nn
theorem It : ar LG := ac JI uK
end Go.Proofs.Ytohjofabochgfaa

namespace Go.Proofs.Ytohjofabochgfaa
namespace Sx
open Go
theorem OT.Ek {α β : Type} {f : α → OT β} : ∀ {t : OT α} {a : α} {b : β}, t.run = some a → (f a).run = some b → (t.bind f).run = some b
  | .ok x, a, b, h, h2 => by
    cases h
    exact h2
  | .br c x y, a, b, h, h2 => by
    cases c
    · exact OT.Ek (t := y) h h2
    · exact OT.Ek (t := x) h h2
  | .fail, a, b, h, _ => by cases h
theorem nV {P : Program} {n : FuncId} {S : ak} {pre pre' : S.T → Bool} {F F' : S.T → OT S.Y} (h : ab P n (S.aE pre F))
    (hw : ∀ x oy, pre' x = true → (F' x).run = some oy → pre x = true ∧ (F x).run = some oy) : ab P n (S.aE pre' F') := by
  refine ⟨fun R w d args vs out hm hr hrun => h.calls R w d args vs out hm hr ?_⟩
  simp only [ak.aE] at hrun ⊢
  split at hrun
  · cases hrun
  · rename_i x hx
    obtain ⟨hp, hrun⟩ := OT.au hrun
    obtain ⟨oy, h1, h2⟩ := OT.run_bind hrun
    obtain ⟨h3, h4⟩ := hw x oy hp h1
    rw [h3]
    exact OT.Ek h4 h2
end Sx
end Go.Proofs.Ytohjofabochgfaa

namespace Go.Proofs.Ytohjofabochgfaa
open Sx Go
set_option maxRecDepth 100000
abbrev NL : ak := eJ
def AV (x : tZ) : Bool := aw x.1.1
def NM (x : tZ) : OT eJ.Y := .ok ⟨fR, (((cI x.1.1.toNat).1, ((0 : Int), ())), ())⟩
theorem Uh : ab Try.prog 40 (NL.aE AV NM) := nV (S := eJ) NN fun x oy hp ho => ⟨rfl, (OT.ax (b := aw x.1.1) hp).trans ho⟩
def n5 : bO := (NL.aE AV NM)
theorem FQ : ab Try.prog 40 n5 := Uh
theorem FP : aD n5 := aA
def EE : Env := av 40 n5 LG
theorem LH : aN Try.prog EE := ah FQ Rw
theorem ED : ar EE := ac FP It
abbrev Ua : ak := gJ
def iY (x : FM) : Bool := aw x.1.1
def Ub (x : FM) : OT gJ.Y := .ok ⟨iP, ((ofP (pS x.1.1) x.1.2.1, ()), ())⟩
theorem YX : ab Try.prog 17 (Ua.aE iY Ub) := nV (S := gJ) Ue fun x oy hp ho => ⟨rfl, (OT.ax (b := aw x.1.1) hp).trans ho⟩
def sc : bO := (Ua.aE iY Ub)
theorem JF : ab Try.prog 17 sc := YX
theorem JE : aD sc := aA
def y7 : Env := av 17 sc EE
theorem tx : aN Try.prog y7 := ah JF LH
theorem uH : ar y7 := ac JE ED
theorem LF : aY Try.prog te y7 := aG follows ao tx uH
def gI : ak := ⟨[], [], true, 0, false⟩
abbrev AO : Type := (Unit) × (Unit)
def CR : aq := ⟨[.val true (.prod .elem (.prod .elem .bool))], [], false⟩
def FE : SV → Option aq := fun _ => some CR
def JA : OT gI.Y :=
  let z0 : ag := { w0 := 0, w1 := 0, w2 := 0, w3 := 0 }
  (.ok ⟨CR, (((z0, z0, true), ()), ())⟩)
theorem acR (x : AO) (Q : gI.Y → Prop) : wpf te y7 az 1000 Try.f8 (gI.inp.inj x).tm (gI.inp.inj x).hp (fnK gI FE Q) (fun _ _ => False) = (JA).wpR Q := by kernel_rfl
theorem PI (pre : AO → Bool) (F : AO → OT gI.Y) (hF : ∀ (x : AO) oy, pre x = true → (F x).run = some oy → (JA).run = some oy) : ab Try.prog 8 (gI.aE pre F) :=
  aC ao tx LF (f := 8) (fn := Try.f8) (c := al Try.f8) (by kernel_rfl) (by kernel_rfl) (by kernel_rfl) (S := gI) (k := 0) (by kernel_rfl) (fun R hR => ae) (n := 1000) (sel := FE) (fun v o h => by cases h; rfl) (pre := pre) (F := F) (T := fun x => JA) (fun x Q => acR x Q) hF
def FF (_ : AO) : Bool := true
def TZ (_ : AO) : OT gI.Y := .ok ⟨CR, ((aaM, ()), ())⟩
theorem YT : ab Try.prog 8 (gI.aE FF TZ) := PI _ _ fun x oy _ ho => ho
def r8 : bO := (gI.aE FF TZ)
theorem Jz : ab Try.prog 8 r8 := YT
theorem Jy : aD r8 := aA
def y6 : Env := av 8 r8 y7
theorem tw : aN Try.prog y6 := ah Jz tx
theorem uG : ar y6 := ac Jy uH
theorem LD : aY Try.prog te y6 := aG follows ao tw uG
def wD : ak := ⟨[.val false .int], [], true, 0, false⟩
abbrev aec : Type := ((Int) × Unit) × (Unit)
def T4 : aq := ⟨[.val true .elem], [], false⟩
def T3 : SV → Option aq := fun _ => some T4
def acS (a0 : Int) : OT wD.Y :=
  (gd [inB a0 4, decide (Int.toNat a0 + 0 < 4)] (.ok ⟨T4, (({ w0 := List.getD [(23 : UInt64), (21 : UInt64), (5 : UInt64), (5 : UInt64)] (Int.toNat a0 + 0) (0 : UInt64), w1 := 0, w2 := 0, w3 := 0 }, ()), ())⟩))
theorem afJ (x : aec) (Q : wD.Y → Prop) : wpf te y6 az 1000 Try.f54 (wD.inp.inj x).tm (wD.inp.inj x).hp (fnK wD T3 Q) (fun _ _ => False) = (acS (x.1.1)).wpR Q := by kernel_rfl
theorem YV (pre : aec → Bool) (F : aec → OT wD.Y) (hF : ∀ (x : aec) oy, pre x = true → (F x).run = some oy → (acS (x.1.1)).run = some oy) : ab Try.prog 54 (wD.aE pre F) :=
  aC ao tw LD (f := 54) (fn := Try.f54) (c := al Try.f54) (by kernel_rfl) (by kernel_rfl) (by kernel_rfl) (S := wD) (k := 0) (by kernel_rfl) (fun R hR => ae) (n := 1000) (sel := T3) (fun v o h => by cases h; rfl) (pre := pre) (F := F) (T := fun x => acS (x.1.1)) (fun x Q => afJ x Q) hF
def JC (x : aec) : Bool := aw x.1.1
def aeO (x : aec) : OT wD.Y := .ok ⟨T4, ((bS x.1.1, ()), ())⟩
theorem aeN : ab Try.prog 54 (wD.aE JC aeO) := YV _ _ fun x oy hp ho => by
  rw [← ho]
  clear ho
  obtain ⟨⟨s, ⟨⟩⟩, ⟨⟩⟩ := x
  rcases b6 hp with h | h | h | h
  all_goals
    have h : s = _ := h
    subst h
    rfl
def CT : bO := (wD.aE JC aeO)
theorem T5 : ab Try.prog 54 CT := aeN
theorem T1 : aD CT := aA
def W1 : Env := av 54 CT y6
theorem EC : aN Try.prog W1 := ah T5 tw
theorem Ce : ar W1 := ac T1 uG
theorem W0 : aY Try.prog te W1 := aG follows ao EC Ce
def dS : ak := ⟨[.val false .int, .val true .elem], [], true, 0, false⟩
abbrev sa : Type := ((Int) × (ag) × Unit) × (Unit)
def pB : aq := ⟨[.val true .elem], [], false⟩
def AP : SV → Option aq := fun _ => some pB
def CS (a0 : Int) (a1 : ag) : OT dS.Y :=
  let z0 : Nat := pS a0
  let z1 : ag := pL z0 a1 a1
  let z2 : ag := pL z0 a1 z1
  let z3 : ag := bS a0
  (gd [kL ((a0, a1, a1, ()), ()), kL ((a0, a1, z1, ()), ()), JC ((a0, ()), ()), wT ((a0, z2, z3, ()), ())] (.ok ⟨pB, ((th z0 z2 z3, ()), ())⟩))
theorem YU (x : sa) (Q : dS.Y → Prop) : wpf te W1 az 1000 Try.f31 (dS.inp.inj x).tm (dS.inp.inj x).hp (fnK dS AP Q) (fun _ _ => False) = (CS (x.1.1) (x.1.2.1)).wpR Q := by kernel_rfl
theorem JB (pre : sa → Bool) (F : sa → OT dS.Y) (hF : ∀ (x : sa) oy, pre x = true → (F x).run = some oy → (CS (x.1.1) (x.1.2.1)).run = some oy) : ab Try.prog 31 (dS.aE pre F) :=
  aC ao EC W0 (f := 31) (fn := Try.f31) (c := al Try.f31) (by kernel_rfl) (by kernel_rfl) (by kernel_rfl) (S := dS) (k := 0) (by kernel_rfl) (fun R hR => ae) (n := 1000) (sel := AP) (fun v o h => by cases h; rfl) (pre := pre) (F := F) (T := fun x => CS (x.1.1) (x.1.2.1)) (fun x Q => YU x Q) hF
theorem UD (p : Nat) (a b : ag) : pL p a b = pL p b a := by unfold pL; rw [Nat.mul_comm]
def r9 (x : sa) : Bool := aw x.1.1
def NF (x : sa) : OT dS.Y := .ok ⟨pB, ((Hi (pS x.1.1) x.1.2.1 (bS x.1.1), ()), ())⟩
theorem T0 : ab Try.prog 31 (dS.aE r9 NF) := JB _ _ fun x oy hp ho => by
  rw [← ho]
  clear ho
  obtain ⟨⟨s, a, ⟨⟩⟩, ⟨⟩⟩ := x
  have hs : aw s = true := hp
  show _ = some (⟨pB, ((Hi (pS s) a (bS s), ()), ())⟩ : dS.Y)
  unfold Hi
  rw [UD _ (pL (pS s) a a) a]
  refine (aj ?_).trans rfl
  simp only [List.all_cons, List.all_nil, Bool.and_true, Bool.and_eq_true]
  exact ⟨hs, hs, hs, hs⟩
def n3 : bO := (dS.aE r9 NF)
theorem FH : ab Try.prog 31 n3 := T0
theorem FG : aD n3 := aA
def qX : Env := av 31 n3 W1
theorem oN : aN Try.prog qX := ah FH EC
theorem qW : ar qX := ac FG Ce
theorem Ir : aY Try.prog te qX := aG follows ao oN qW
def iX : ak := ⟨[.val false .int, .val true (.prod .elem (.prod .elem .bool))], [], true, 0, false⟩
abbrev PH : Type := ((Int) × ((ag × (ag × Bool))) × Unit) × (Unit)
def jV : aq := ⟨[.val false .bool], [], false⟩
def ND : SV → Option aq := fun _ => some jV
def TY (a0 : Int) (a1 : (ag × (ag × Bool))) : OT iX.Y :=
  let z0 : Int × ag × PUnit := (a0, a1.fst, ())
  let z1 : Nat := pS a0
  let z2 : ag := ofP z1 a1.fst
  let z3 : ag := ofP z1 a1.snd.fst
  let z4 : ag := pL z1 a1.snd.fst a1.snd.fst
  let z5 : ag := Hi z1 a1.fst (bS a0)
  (.br (decide (a0 < (0 : Int)))
  (.ok ⟨jV, ((false, ()), ())⟩)
  (.br (decide ((3 : Int) < a0))
    (.ok ⟨jV, ((false, ()), ())⟩)
    (.br (a1.snd.snd)
      (.ok ⟨jV, ((a1.fst.w0 == (0 : UInt64) && (a1.fst.w1 == (0 : UInt64) && (a1.fst.w2 == (0 : UInt64) && (a1.fst.w3 == (0 : UInt64) && true))) && (a1.snd.fst.w0 == (0 : UInt64) && (a1.snd.fst.w1 == (0 : UInt64) && (a1.snd.fst.w2 == (0 : UInt64) && (a1.snd.fst.w3 == (0 : UInt64) && true))) && (a1.snd.snd == true && true)), ()), ())⟩)
      (gd [iY (z0, ())] (.br (!(z2.w0 == a1.fst.w0 && (z2.w1 == a1.fst.w1 && (z2.w2 == a1.fst.w2 && (z2.w3 == a1.fst.w3 && true)))))
        (.ok ⟨jV, ((false, ()), ())⟩)
        (gd [iY ((a0, a1.snd.fst, ()), ())] (.br (!(z3.w0 == a1.snd.fst.w0 && (z3.w1 == a1.snd.fst.w1 && (z3.w2 == a1.snd.fst.w2 && (z3.w3 == a1.snd.fst.w3 && true)))))
          (.ok ⟨jV, ((false, ()), ())⟩)
          (gd [kL ((a0, a1.snd.fst, a1.snd.fst, ()), ()), r9 (z0, ())] (.ok ⟨jV, ((z4.w0 == z5.w0 && (z4.w1 == z5.w1 && (z4.w2 == z5.w2 && (z4.w3 == z5.w3 && true))), ()), ())⟩)))))))))
theorem aeM (x : PH) (Q : iX.Y → Prop) : wpf te qX az 1000 Try.f7 (iX.inp.inj x).tm (iX.inp.inj x).hp (fnK iX ND Q) (fun _ _ => False) = (TY (x.1.1) (x.1.2.1)).wpR Q := by kernel_rfl
theorem TX (pre : PH → Bool) (F : PH → OT iX.Y) (hF : ∀ (x : PH) oy, pre x = true → (F x).run = some oy → (TY (x.1.1) (x.1.2.1)).run = some oy) : ab Try.prog 7 (iX.aE pre F) :=
  aC ao oN Ir (f := 7) (fn := Try.f7) (c := al Try.f7) (by kernel_rfl) (by kernel_rfl) (by kernel_rfl) (S := iX) (k := 0) (by kernel_rfl) (fun R hR => ae) (n := 1000) (sel := ND) (fun v o h => by cases h; rfl) (pre := pre) (F := F) (T := fun x => TY (x.1.1) (x.1.2.1)) (fun x Q => aeM x Q) hF
theorem NT {s : Int} (hs : aw s = true) (x : ag) : eqE (ofP (pS s) x) x = Nat.blt x.nat (pS s) := by
  have hp := F7 hs
  have hlt := Nat.mod_lt x.nat hp.1
  rw [adL, show (ofP (pS s) x).nat = x.nat % pS s from jT hp]
  rcases (Bool.eq_false_or_eq_true (Nat.blt x.nat (pS s))).symm with h | h
  · rw [h]
    have hle := Uz h
    cases hb : Nat.beq (x.nat % pS s) x.nat
    · rfl
    · have := Nat.eq_of_beq_eq_true hb
      omega
  · rw [h, Nat.mod_eq_of_lt (cK h)]
    exact Nat.beq_refl _
def NE (_ : PH) : Bool := true
def aaE (x : PH) : OT iX.Y := .ok ⟨jV, ((onB x.1.1 x.1.2.1, ()), ())⟩
theorem acQ : ab Try.prog 7 (iX.aE NE aaE) := TX _ _ fun x oy _ ho => by
  rw [← ho]
  clear ho
  obtain ⟨⟨c, ⟨X, Y, i⟩, ⟨⟩⟩, ⟨⟩⟩ := x
  show _ = some (⟨jV, ((onB c (X, Y, i), ()), ())⟩ : iX.Y)
  rcases (Bool.eq_false_or_eq_true (aw c)).symm with hs | hs
  · have e : onB c (X, Y, i) = false := by unfold onB; rw [hs]; rfl
    rw [e]
    by_cases h0 : c < 0
    · exact OT.ax (decide_eq_true h0)
    · refine (OT.ay (decide_eq_false h0)).trans (OT.ax (decide_eq_true ?_))
      show (3 : Int) < c
      simp only [aw, Bool.and_eq_false_iff, decide_eq_false_iff_not] at hs
      omega
  · have hc : 0 ≤ c ∧ c < 4 := by simpa [aw] using hs
    refine (OT.ay (decide_eq_false (by show ¬ c < 0; omega))).trans ((OT.ay (decide_eq_false (by show ¬ (3 : Int) < c; omega))).trans ?_)
    have hx := NT hs X
    have hy := NT hs Y
    have gd1 : ∀ (a : ag) (z : OT iX.Y), (gd [iY ((c, a, ()), ())] z).run = z.run := fun a z => aj (by simp only [List.all_cons, List.all_nil, Bool.and_true]; exact hs)
    cases i
    · refine (OT.ay rfl).trans ((gd1 X _).trans ?_)
      rcases (Bool.eq_false_or_eq_true (Nat.blt X.nat (pS c))).symm with h1 | h1
      · have e : onB c (X, Y, false) = false := by unfold onB; rw [hs, h1]; rfl
        rw [e]
        rw [h1] at hx
        exact OT.ax (b := !eqE (ofP (pS c) X) X) (by rw [hx]; rfl)
      · have hx1 := hx
        rw [h1] at hx1
        refine (OT.ay (b := !eqE (ofP (pS c) X) X) (by rw [hx1]; rfl)).trans ((gd1 Y _).trans ?_)
        rcases (Bool.eq_false_or_eq_true (Nat.blt Y.nat (pS c))).symm with h2 | h2
        · have e : onB c (X, Y, false) = false := by unfold onB; rw [hs, h1, h2]; rfl
          rw [e]
          rw [h2] at hy
          exact OT.ax (b := !eqE (ofP (pS c) Y) Y) (by rw [hy]; rfl)
        · have hy1 := hy
          rw [h2] at hy1
          have e : onB c (X, Y, false) = eqE (pL (pS c) Y Y) (Hi (pS c) X (bS c)) := by unfold onB; rw [hs, h1, h2]; rfl
          rw [e]
          refine (OT.ay (b := !eqE (ofP (pS c) Y) Y) (by rw [hy1]; rfl)).trans ((aj ?_).trans rfl)
          simp only [List.all_cons, List.all_nil, Bool.and_true, Bool.and_eq_true]
          exact ⟨hs, hs⟩
    · have e : onB c (X, Y, true) = (Xb X && (Xb Y && true)) := by unfold onB; rw [hs]; rfl
      rw [e]
      exact OT.ax rfl
def wC : bO := (iX.aE NE aaE)
theorem PG : ab Try.prog 7 wC := acQ
theorem PF : aD wC := aA
def Cd : Env := av 7 wC qX
theorem qV : aN Try.prog Cd := ah PG oN
theorem y5 : ar Cd := ac PF qW
theorem Cc : aY Try.prog te Cd := aG follows ao qV y5
end Go.Proofs.Ytohjofabochgfaa
