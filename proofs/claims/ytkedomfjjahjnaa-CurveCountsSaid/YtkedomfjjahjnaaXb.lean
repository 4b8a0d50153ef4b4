/- A symbolic machine for Go code over plain data, and functions of the program as it shows them. No statement is proved in this file. -/
import Derived.Lib.SliceRun
import Derived.Lib.ConvBytes
import Derived.Lib.SlBytesConst
import Derived.Test.YtkedomfjjahjnaaXa
set_option linter.unusedSimpArgs false
set_option linter.unusedVariables false
set_option linter.unusedSectionVars false

namespace Go.Proofs.Ytkedomfjjahjnaa
namespace Sx
open Go
section
variable {P : Program} {R : Ctx} {w : World}
theorem sliceLike_run {te : TE} (hte : TeOk P te) {T : TypeId} (h : sliceLike te T = true) : (∃ e, P.underlying T = some (.slice e)) ∨ P.underlying T = some .string := by
  unfold sliceLike at h
  split at h
  · rename_i hT
    obtain ⟨d, h1, h2⟩ := (hte T _ hT).desc
    simp only at h2
    subst h2
    exact .inl ⟨_, h1⟩
  · rename_i hT
    obtain ⟨d, h1, h2⟩ := (hte T _ hT).desc
    simp only at h2
    subst h2
    exact .inr h1
  · cases h
section
variable {T T' Tr e : TypeId} {ti : TI} {sLen sCap : Nat} {x : Value} {n : Nat} (hT : P.underlying T = some (.slice e)) (he : TiOk P e ti)
  (hT' : (∃ e, P.underlying T' = some (.slice e)) ∨ P.underlying T' = some .string) (hx : (Builtin.lenOf x).run P w = .ok n w)
include hT he hT' hx
theorem run_app_room {a : Addr} {news : List Value} {w1 : World} (hf : (Builtin.firstCells ti.size n x).run P w = .ok news.toArray w) (hroom : sLen + n ≤ sCap)
    (hst : (Go.storeCells (a.add (sLen * ti.size)) news).run P w = .ok () w1) :
    (Builtin.append_ #[T, T'] Tr #[.slice (some a) sLen sCap, x]).run P w = .ok (.slice (some a) (sLen + n) sCap) w1 := by
  have hs := he.run_sizeOf w
  rcases hT' with ⟨e', hT'⟩ | hT' <;> simp [Builtin.append_, run_underlying hT, run_underlying hT', hs, hx, hroom, hf, hst]
theorem run_app_room_none {news : List Value} (hf : (Builtin.firstCells ti.size n x).run P w = .ok news.toArray w) (hroom : sLen + n ≤ sCap) :
    (Builtin.append_ #[T, T'] Tr #[.slice none sLen sCap, x]).run P w = .ok (.slice none (sLen + n) sCap) w := by
  have hs := he.run_sizeOf w
  rcases hT' with ⟨e', hT'⟩ | hT' <;> simp [Builtin.append_, run_underlying hT, run_underlying hT', hs, hx, hroom, hf]
theorem run_app_grow {base : Option Addr} {olds news : List Value} {ie : TypeInfo} {z : Value} (hi : P.info? e = some ie) (hz : ie.zero = some z) (hroom : ¬ sLen + n ≤ sCap) (h63 : sLen + n ≤ 140737488355328)
    (hcap : Builtin.nextslicecap (sLen + n) sCap * ie.bytes ≤ 281474976710656)
    (ho : (Builtin.firstCells ti.size sLen (.slice base sLen sCap)).run P w.drew = .ok olds.toArray w.drew) (hf : (Builtin.firstCells ti.size n x).run P w.drew = .ok news.toArray w.drew) :
    (Builtin.append_ #[T, T'] Tr #[.slice base sLen sCap, x]).run P w =
      .ok (.slice (some ⟨w.heap.size, 0, none⟩) (sLen + n) (grownCap w (sLen + n) sCap e))
        (w.drew.alloc (.cells (olds.toArray ++ news.toArray ++ Builtin.zeroCells z.cells (grownCap w (sLen + n) sCap e - (sLen + n))) e)) := by
  have hs := he.run_sizeOf w
  have h63' : ¬ (9223372036854775807 < ((sLen : Int) + (n : Int))) := by omega
  have h48' : ¬ (281474976710656 < Builtin.nextslicecap (sLen + n) sCap * ie.bytes) := by omega
  have hti : (typeInfo e).run P w = .ok ie w := by simp [typeInfo, hi]
  rcases hT' with ⟨e', hT'⟩ | hT'
  · simp [Builtin.append_, run_underlying hT, run_underlying hT', hs, hx, hroom, typeInfo, zeroValue, hi, hz, h63', h48', Question.forced, hf, ho, newRow, grownCap]
    congr 2
    apply Array.ext'
    simp
  · simp [Builtin.append_, run_underlying hT, run_underlying hT', hs, hx, hroom, typeInfo, zeroValue, hi, hz, h63', h48', Question.forced, hf, ho, newRow, grownCap]
    congr 2
    apply Array.ext'
    simp
end
theorem drew_keep (w : World) : ∀ b, b < w.heap.size → w.drew.heap[b]? = w.heap[b]? := fun _ _ => rfl
theorem row_append {t : Ty} {xs ys : List t.T} {A B C : List Value} (hA : A.length = xs.length * t.size) (hB : B.length = ys.length * t.size)
    (ha : ∀ i, i < xs.length → Rep R.F t (xs.getD i t.d) (seg A (i * t.size) t.size)) (hb : ∀ i, i < ys.length → Rep R.F t (ys.getD i t.d) (seg B (i * t.size) t.size)) :
    ∀ i, i < (xs ++ ys).length → Rep R.F t ((xs ++ ys).getD i t.d) (seg (A ++ B ++ C) (i * t.size) t.size) := fun i hi => by
  rw [List.length_append] at hi
  by_cases h : i < xs.length
  · have hle : (i + 1) * t.size ≤ xs.length * t.size := Nat.mul_le_mul_right _ h
    rw [Nat.succ_mul] at hle
    have e1 : (xs ++ ys).getD i t.d = xs.getD i t.d := by
      simp only [List.getD_eq_getElem?_getD]
      rw [List.getElem?_append_left h]
    have e2 : seg (A ++ B ++ C) (i * t.size) t.size = seg A (i * t.size) t.size := by
      apply List.ext_getElem?
      intro j
      simp only [seg, List.getElem?_take, List.getElem?_drop]
      by_cases hj : j < t.size
      · simp only [hj, if_true]
        rw [List.append_assoc, List.getElem?_append_left (by omega)]
      · simp [hj]
    rw [e1, e2]
    exact ha i h
  · have hle : (i - xs.length + 1) * t.size ≤ ys.length * t.size := Nat.mul_le_mul_right _ (by omega)
    rw [Nat.succ_mul] at hle
    have hsub : (i - xs.length) * t.size + xs.length * t.size = i * t.size := by rw [← Nat.add_mul]; congr 1; omega
    have e1 : (xs ++ ys).getD i t.d = ys.getD (i - xs.length) t.d := by
      simp only [List.getD_eq_getElem?_getD]
      rw [List.getElem?_append_right (by omega)]
    have e2 : seg (A ++ B ++ C) (i * t.size) t.size = seg B ((i - xs.length) * t.size) t.size := by
      apply List.ext_getElem?
      intro j
      simp only [seg, List.getElem?_take, List.getElem?_drop]
      by_cases hj : j < t.size
      · simp only [hj, if_true]
        rw [List.getElem?_append_left (by simp; omega), List.getElem?_append_right (by omega)]
        congr 1
        omega
      · simp [hj]
    rw [e1, e2]
    exact hb _ (by omega)
theorem grown_row (hm : HpOk R w) {te : TE} {T T' Tr e : TypeId} {ti : TI} (hT : P.underlying T = some (.slice e)) (he : TiOk P e ti) (hT' : (∃ e, P.underlying T' = some (.slice e)) ∨ P.underlying T' = some .string)
    {t : Ty} (ht : 0 < t.size) (hts : t.size = ti.size) {xs ys : List t.T} {base : Option Addr} {sCap : Nat} {x : Value} {news : List Value} (hsrc : Src P R w t ys x news) {olds : List Value} (hold : Src P R w t xs (.slice base xs.length sCap) olds)
    (hroom : ¬ xs.length + ys.length ≤ sCap) (hbytes : (xs.length + ys.length) * ti.bytes ≤ 140737488355328) (hb0 : 0 < ti.bytes) {n : Nat} (hn : R.hp n = none) :
    Makes P R w (Builtin.append_ #[T, T'] Tr #[.slice base xs.length sCap, x]) ⟨.own n 0, [(n, ⟨0, .row t (xs ++ ys)⟩)]⟩ := by
  obtain ⟨ie, z, z1, z2, z3, z4, z5, z6, z7⟩ := he.zero_rel (R := R)
  have h63 : xs.length + ys.length ≤ 140737488355328 := by
    have : (xs.length + ys.length) * 1 ≤ (xs.length + ys.length) * ti.bytes := Nat.mul_le_mul_left _ hb0
    omega
  have hf := hsrc.cells w.drew ys.length (drew_keep w) (Nat.le_refl _)
  have ho := hold.cells w.drew xs.length (drew_keep w) (Nat.le_refl _)
  rw [hts, ← hts, List.take_of_length_le (by rw [hsrc.size]; exact Nat.le_refl _)] at hf
  rw [List.take_of_length_le (by rw [hold.size]; exact Nat.le_refl _)] at ho
  rw [hts] at hf ho
  have hrun := run_app_grow (Tr := Tr) hT he hT' (hsrc.len w) z1 z4 hroom h63 (growslice_fits (by omega) (by rw [z3]; exact hbytes)) ho hf
  have hge := grownCap_ge w (xs.length + ys.length) sCap e
  have hgm := grownCap_le_maxLen w (xs.length + ys.length) sCap e (by unfold maxLen; omega)
  have hlen : (xs ++ ys).length = xs.length + ys.length := List.length_append
  have hsz : (olds.toArray ++ news.toArray ++ Builtin.zeroCells z.cells (grownCap w (xs.length + ys.length) sCap e - (xs.length + ys.length))).size = grownCap w (xs.length + ys.length) sCap e * t.size := by
    simp only [Array.size_append, List.size_toArray, size_zeroCells, z6, hold.size, hsrc.size, ← hts, ← Nat.add_mul]
    congr 1
    omega
  refine ⟨_, _, _, hrun, lay_row hm hn ht (xs := xs ++ ys) (E := e) (by rw [hlen]; unfold maxLen'; omega) (heap_alloc_new w.drew _) (fun b hb => heap_alloc_old w.drew _ b hb) ?_ ?_, ?_⟩
  · rw [hlen, hsz]
    exact Nat.mul_le_mul_right _ hge
  · have := row_append (R := R) (C := (Builtin.zeroCells z.cells (grownCap w (xs.length + ys.length) sCap e - (xs.length + ys.length))).toList) hold.size hsrc.size hold.rep hsrc.rep
    simpa using this
  · have hfin := rel_own_new (R := R) (n := n) (t := t) (xs := xs ++ ys) (L := ⟨w.heap.size, 0, (olds.toArray ++ news.toArray ++ Builtin.zeroCells z.cells (grownCap w (xs.length + ys.length) sCap e - (xs.length + ys.length))).size⟩)
      (cap := grownCap w (xs.length + ys.length) sCap e) (by rw [hlen]; exact hge) (by simp only; rw [hsz]; exact Nat.le_refl _) rfl
    rw [hlen] at hfin
    exact hfin
end
end Sx
end Go.Proofs.Ytkedomfjjahjnaa

namespace Go.Proofs.Ytkedomfjjahjnaa
namespace Sx
open Go
section
variable {P : Program} {R : Ctx} {w : World}
theorem row_of_hp (hm : HpOk R w) {c e : Nat} {t : Ty} {xs : List t.T} (hc : R.hp c = some ⟨e, .row t xs⟩) : 0 < t.size ∧ xs.length ≤ maxLen' := by
  have := hm.ch c _ hc
  simp only [ChOk] at this
  exact ⟨this.1, this.2.1⟩
def Ctx.move (R : Ctx) (c : Nat) (ch : Ch) (L : Option Loc) : Ctx := { R with hp := fun m => if m = c then some ch else R.hp m, σ := fun m => if m = c then L else R.σ m }
theorem Ctx.move_ext {R : Ctx} {c : Nat} {ch ch' : Ch} {L : Option Loc} (hc : R.hp c = some ch) (he : ch.ep < ch'.ep) : R.Ext (R.move c ch' L) := by
  refine ⟨fun _ _ h => h, rfl, fun n c1 hn => ?_⟩
  by_cases e : n = c
  · subst e
    rw [hc] at hn
    cases Option.some.inj hn
    exact ⟨ch', by simp [Ctx.move], Nat.le_of_lt he, fun h => by omega⟩
  · exact ⟨c1, by simp [Ctx.move, e, hn], Nat.le_refl _, fun _ => ⟨rfl, by simp [Ctx.move, e]⟩⟩
theorem append_own_sound (hm : HpOk R w) {T T' Tr el : TypeId} {ti : TI} (hT : P.underlying T = some (.slice el)) (he : TiOk P el ti) (hT' : (∃ e, P.underlying T' = some (.slice e)) ∨ P.underlying T' = some .string)
    {t : Ty} (hts : t.size = ti.size) {c ep : Nat} {xs ys : List t.T} (hc : R.hp c = some ⟨ep, .row t xs⟩) {v x : Value} {news : List Value} (hv : R.own c ep v) (hsrc : Src P R w t ys x news)
    (hbytes : (xs.length + ys.length) * ti.bytes ≤ 140737488355328) (hb0 : 0 < ti.bytes) :
    Makes P R w (Builtin.append_ #[T, T'] Tr #[v, x]) ⟨.own c (ep + 1), [(c, ⟨ep + 1, .row t (xs ++ ys)⟩)]⟩ := by
  obtain ⟨ht, hmx⟩ := row_of_hp hm hc
  have hp := Ctx.own_part hc hv
  obtain ⟨news0, hold⟩ := src_part (P := P) hm hc (.inl rfl) hp
  obtain ⟨_, _, ad, cap, rfl, hcap, h5⟩ := Ctx.part_open hc hp
  simp only [Chunk.shape, List.drop_zero, List.take_length, Nat.zero_add, Nat.zero_mul, Nat.add_zero] at hold hcap h5 ⊢
  have h63 : xs.length + ys.length ≤ 140737488355328 := by
    have : (xs.length + ys.length) * 1 ≤ (xs.length + ys.length) * ti.bytes := Nat.mul_le_mul_left _ hb0
    omega
  have hlen : (xs ++ ys).length = xs.length + ys.length := List.length_append
  have hch := hm.ch c _ hc
  have hf := hsrc.cells w ys.length (fun _ _ => rfl) (Nat.le_refl _)
  rw [hts, ← hts, List.take_of_length_le (by rw [hsrc.size]; exact Nat.le_refl _), hts] at hf
  by_cases hroom : xs.length + ys.length ≤ cap
  · -- in place
    cases hσ : R.σ c with
    | none =>
      rw [hσ] at h5
      simp only at h5
      subst h5
      have hx0 : xs = [] := List.eq_nil_of_length_eq_zero (by omega)
      have hy0 : ys = [] := List.eq_nil_of_length_eq_zero (by omega)
      subst hx0; subst hy0
      have hn0 : news = [] := List.eq_nil_of_length_eq_zero (by rw [hsrc.size]; simp)
      subst hn0
      have hrun : (Builtin.append_ #[T, T'] Tr #[.slice ad 0 0, x]).run P w = .ok (.slice ad 0 0) w := by
        cases ad with
        | none => exact run_app_room_none hT he hT' (hsrc.len w) hf hroom
        | some a => exact run_app_room hT he hT' (hsrc.len w) hf hroom rfl
      have hx := Ctx.move_ext (L := none) (ch' := ⟨ep + 1, .row t ([] ++ [])⟩) hc (by simp)
      refine ⟨_, w, R.move c ⟨ep + 1, .row t ([] ++ [])⟩ none, hrun, ⟨hx, rfl, ?_⟩, ?_⟩
      · refine HpOk.turn hm hx rfl rfl (fun n hn => by simp [Ctx.move, hn]) w.heap.size (fun _ _ _ => rfl) ⟨hm.F_new, hm.U_new, fun n ch L hn h1 h2 h3 => ?_⟩ ?_ (fun L h2 => by simp [Ctx.move] at h2)
        · have := hm.lt h1 h2 h3; omega
        · simp only [ChOk, Ctx.move, if_true]
          exact ⟨ht, by simp, rfl⟩
      · simp only [SV.rel]
        have hc' : (R.move c ⟨ep + 1, .row t ([] ++ [])⟩ none).hp c = some ⟨ep + 1, .row t ([] ++ [])⟩ := by simp [Ctx.move]
        refine ⟨rfl, _, hc', Nat.le_refl _, fun _ => ⟨_, hc', Nat.le_refl _, fun _ => ⟨rfl, by simp, ad, 0, rfl, Nat.le_refl _, ?_⟩⟩⟩
        simp [Ctx.move]
    | some L =>
      rw [hσ] at h5
      obtain ⟨h6, h7⟩ := h5
      simp only [ChOk, hσ] at hch
      obtain ⟨_, _, hF, hU, arr, E, hb, ha, hl, hrow⟩ := hch
      have hle : (xs.length + ys.length) * t.size ≤ cap * t.size := Nat.mul_le_mul_right _ hroom
      rw [Nat.add_mul] at hle
      have hst : ∀ a, ad = some a → (Go.storeCells (a.add (xs.length * ti.size)) news).run P w = .ok () (w.setRow L.block (arr.toList.take (L.base + xs.length * t.size) ++ news ++ arr.toList.drop (L.base + xs.length * t.size + news.length)).toArray) := fun a haa => by
        by_cases hz : news = []
        · subst hz
          simp only [Go.storeCells, List.append_nil, List.length_nil, Nat.add_zero, List.take_append_drop, Array.toArray_toList]
          rw [setRow_self w L.block arr E (0, 0) hb]
          rfl
        · have hpos : 0 < cap := by
            have : 0 < news.length := List.length_pos_iff.2 hz
            rw [hsrc.size] at this
            have := Nat.pos_of_mul_pos_right this
            omega
          have := h7 hpos
          rw [haa] at this
          cases this
          rw [add_none, ← hts]
          have := run_storeCells_at P L.block (L.base + xs.length * t.size) E news 0 arr w hb (by rw [hsrc.size]; omega) hsrc.one
          simpa using this
      have hx := Ctx.move_ext (L := some L) (ch' := ⟨ep + 1, .row t (xs ++ ys)⟩) hc (by simp)
      have hmem : ∀ w', w'.heap[L.block]? = some (.cells (arr.toList.take (L.base + xs.length * t.size) ++ news ++ arr.toList.drop (L.base + xs.length * t.size + news.length)).toArray E (0, 0)) → (∀ b, b ≠ L.block → w'.heap[b]? = w.heap[b]?) → Like w w' →
          HpOk (R.move c ⟨ep + 1, .row t (xs ++ ys)⟩ (some L)) w' := fun w' hw' keep hlk => by
        refine HpOk.turn hm hx rfl rfl (fun n hn => by simp [Ctx.move, hn]) L.block (fun b _ hne => keep b hne) ⟨hF, hU, fun n ch2 L2 hn hn2 hm2 hs2 heq => hn (hm.apart n c ch2 _ L2 L hn2 hc hm2 rfl hs2 hσ heq)⟩ ?_ (fun L2 h2 => by simp only [Ctx.move, if_true] at h2; cases h2; rfl) hlk
        simp only [ChOk, Ctx.move, if_true]
        refine ⟨ht, by rw [hlen]; unfold maxLen'; omega, hF, hU, _, E, hw', ?_, ?_, ?_⟩
        · simp only [List.size_toArray, List.length_append, List.length_take, List.length_drop, Array.length_toList, hsrc.size]
          omega
        · rw [hlen, Nat.add_mul]; omega
        · have hA : (seg arr.toList L.base (xs.length * t.size)).length = xs.length * t.size := seg_length (by simp; omega)
          have := row_append (R := R) (xs := xs) (ys := ys) (A := seg arr.toList L.base (xs.length * t.size)) (B := news) (C := arr.toList.drop (L.base + xs.length * t.size + news.length)) hA hsrc.size (fun i hi => by
            have hle : (i + 1) * t.size ≤ xs.length * t.size := Nat.mul_le_mul_right _ hi
            rw [Nat.succ_mul] at hle
            rw [seg_seg _ _ _ _ _ hle]
            exact hrow i hi) hsrc.rep
          intro i hi
          have h8 := this i hi
          have e : seg (arr.toList.take (L.base + xs.length * t.size) ++ news ++ arr.toList.drop (L.base + xs.length * t.size + news.length)) (L.base + i * t.size) t.size =
              seg (seg arr.toList L.base (xs.length * t.size) ++ news ++ arr.toList.drop (L.base + xs.length * t.size + news.length)) (i * t.size) t.size := by
            simp only [seg]
            rw [← List.drop_drop]
            congr 2
            rw [List.append_assoc, List.drop_append, List.drop_take, List.length_take, List.append_assoc]
            rw [show L.base - min (L.base + xs.length * t.size) arr.toList.length = 0 by simp; omega, List.drop_zero]
            congr 2
            omega
          simp only
          rw [e]
          exact h8
      cases had : ad with
      | none =>
        have hcap0 : cap = 0 := by
          by_cases hc0 : 0 < cap
          · have := h7 hc0; rw [had] at this; cases this
          · omega
        have hx0 : xs = [] := List.eq_nil_of_length_eq_zero (by omega)
        have hy0 : ys = [] := List.eq_nil_of_length_eq_zero (by omega)
        subst hx0; subst hy0; subst hcap0
        have hn0 : news = [] := List.eq_nil_of_length_eq_zero (by rw [hsrc.size]; simp)
        subst hn0
        have hrun := run_app_room_none (Tr := Tr) hT he hT' (hsrc.len w) hf hroom
        refine ⟨_, w, R.move c ⟨ep + 1, .row t ([] ++ [])⟩ (some L), hrun, ⟨hx, rfl, hmem w (by simpa using hb) (fun _ _ => rfl) ⟨rfl, rfl, rfl⟩⟩, ?_⟩
        simp only [SV.rel]
        have hc' : (R.move c ⟨ep + 1, .row t ([] ++ [])⟩ (some L)).hp c = some ⟨ep + 1, .row t ([] ++ [])⟩ := by simp [Ctx.move]
        refine ⟨rfl, _, hc', Nat.le_refl _, fun _ => ⟨_, hc', Nat.le_refl _, fun _ => ⟨rfl, by simp, none, 0, rfl, Nat.le_refl _, ?_⟩⟩⟩
        simp [Ctx.move]
      | some a =>
        have hrun := run_app_room (Tr := Tr) hT he hT' (hsrc.len w) hf hroom (hst a had)
        refine ⟨_, _, R.move c ⟨ep + 1, .row t (xs ++ ys)⟩ (some L), hrun, ⟨hx, rfl, hmem _ (setRow_heap w L.block arr _ E _ hb) (fun b hne => setRow_other w L.block b _ hne) ⟨rfl, rfl, rfl⟩⟩, ?_⟩
        simp only [SV.rel]
        have hc' : (R.move c ⟨ep + 1, .row t (xs ++ ys)⟩ (some L)).hp c = some ⟨ep + 1, .row t (xs ++ ys)⟩ := by simp [Ctx.move]
        refine ⟨rfl, _, hc', Nat.le_refl _, fun _ => ⟨_, hc', Nat.le_refl _, fun _ => ⟨rfl, by simp, some a, cap, by simp [Chunk.shape], by simp only [Chunk.shape, hlen]; exact hroom, ?_⟩⟩⟩
        simp only [Ctx.move, if_true, Chunk.shape, Nat.zero_add, Nat.zero_mul, Nat.add_zero]
        exact ⟨h6, fun hpos => by rw [← had]; exact h7 hpos⟩
  · -- a new row
    obtain ⟨ie, z, z1, z2, z3, z4, z5, z6, z7⟩ := he.zero_rel (R := R)
    have hf := hsrc.cells w.drew ys.length (drew_keep w) (Nat.le_refl _)
    have ho := hold.cells w.drew xs.length (drew_keep w) (Nat.le_refl _)
    rw [List.take_of_length_le (by rw [hsrc.size]; exact Nat.le_refl _), hts] at hf
    rw [List.take_of_length_le (by rw [hold.size]; exact Nat.le_refl _), hts] at ho
    have hrun := run_app_grow (Tr := Tr) hT he hT' (hsrc.len w) z1 z4 hroom h63 (growslice_fits (by omega) (by rw [z3]; exact hbytes)) ho hf
    have hge := grownCap_ge w (xs.length + ys.length) cap el
    have hsz : (news0.toArray ++ news.toArray ++ Builtin.zeroCells z.cells (grownCap w (xs.length + ys.length) cap el - (xs.length + ys.length))).size = grownCap w (xs.length + ys.length) cap el * t.size := by
      simp only [Array.size_append, List.size_toArray, size_zeroCells, z6, hold.size, hsrc.size, ← hts, ← Nat.add_mul]
      congr 1
      omega
    have hx := Ctx.move_ext (L := some ⟨w.heap.size, 0, grownCap w (xs.length + ys.length) cap el * t.size⟩) (ch' := ⟨ep + 1, .row t (xs ++ ys)⟩) hc (by simp)
    refine ⟨_, _, R.move c ⟨ep + 1, .row t (xs ++ ys)⟩ (some ⟨w.heap.size, 0, grownCap w (xs.length + ys.length) cap el * t.size⟩), hrun, ⟨hx, rfl, ?_⟩, ?_⟩
    · refine HpOk.turn hm hx rfl rfl (fun n hn => by simp [Ctx.move, hn]) w.heap.size (fun b hb _ => heap_alloc_old w.drew _ b hb) ⟨hm.F_new, hm.U_new, fun n ch L hn h1 h2 h3 => ?_⟩ ?_ (fun L2 h2 => by simp only [Ctx.move, if_true] at h2; cases h2; rfl)
      · have := hm.lt h1 h2 h3; omega
      · simp only [ChOk, Ctx.move, if_true]
        refine ⟨ht, by rw [hlen]; unfold maxLen'; omega, hm.F_new, hm.U_new, _, el, heap_alloc_new w.drew _, by rw [hsz]; simp, ?_, ?_⟩
        · rw [hlen]; exact Nat.mul_le_mul_right _ hge
        · have := row_append (R := R) (C := (Builtin.zeroCells z.cells (grownCap w (xs.length + ys.length) cap el - (xs.length + ys.length))).toList) hold.size hsrc.size hold.rep hsrc.rep
          simpa using this
    · simp only [SV.rel]
      have hc' : (R.move c ⟨ep + 1, .row t (xs ++ ys)⟩ (some ⟨w.heap.size, 0, grownCap w (xs.length + ys.length) cap el * t.size⟩)).hp c = some ⟨ep + 1, .row t (xs ++ ys)⟩ := by simp [Ctx.move]
      refine ⟨rfl, _, hc', Nat.le_refl _, fun _ => ⟨_, hc', Nat.le_refl _, fun _ => ⟨rfl, by simp, some ⟨w.heap.size, 0, none⟩, grownCap w (xs.length + ys.length) cap el, by simp only [Chunk.shape, hlen], by simp only [Chunk.shape, hlen]; exact hge, ?_⟩⟩⟩
      simp only [Ctx.move, if_true, Chunk.shape, Nat.zero_add, Nat.zero_mul, Nat.add_zero]
      exact ⟨Nat.le_refl _, fun _ => by simp⟩
theorem append_emp_sound (hm : HpOk R w) {T T' Tr el : TypeId} {ti : TI} (hT : P.underlying T = some (.slice el)) (he : TiOk P el ti) (hT' : (∃ e, P.underlying T' = some (.slice e)) ∨ P.underlying T' = some .string)
    {t : Ty} (ht : 0 < t.size) (hts : t.size = ti.size) {n : Nat} (hn : R.hp n = none) {ys : List t.T} {ad : Option Addr} {x : Value} {news : List Value} (hsrc : Src P R w t ys x news)
    (hbytes : ys.length * ti.bytes ≤ 140737488355328) (hb0 : 0 < ti.bytes) :
    Makes P R w (Builtin.append_ #[T, T'] Tr #[.slice ad 0 0, x]) ⟨.own n 0, [(n, ⟨0, .row t ys⟩)]⟩ := by
  by_cases h0 : ys = []
  · subst h0
    have hn0 : news = [] := List.eq_nil_of_length_eq_zero (by rw [hsrc.size]; simp)
    subst hn0
    have hf := hsrc.cells w 0 (fun _ _ => rfl) (Nat.zero_le _)
    rw [hts] at hf
    simp only [Nat.zero_mul, List.take_nil] at hf
    have hrun : (Builtin.append_ #[T, T'] Tr #[.slice ad 0 0, x]).run P w = .ok (.slice ad 0 0) w := by
      cases ad with
      | none => exact run_app_room_none hT he hT' (hsrc.len w) hf (by simp)
      | some a => exact run_app_room hT he hT' (hsrc.len w) hf (by simp) rfl
    exact ⟨_, w, _, hrun, HpOk.layV hm hn (fun _ _ => rfl) (by simp only [ChOk, Ctx.lay, if_true]; exact ⟨ht, by simp, trivial⟩), rel_own_virtual⟩
  · have hpos : 0 < ys.length := List.length_pos_iff.2 h0
    have := grown_row (Tr := Tr) (te := fun _ => none) hm hT he hT' ht hts (xs := []) (base := ad) (sCap := 0) hsrc (olds := []) src_nil (by simp; omega) (by simpa using hbytes) hb0 hn
    simpa using this
theorem appendOp_sound (hm : HpOk R w) {te : TE} (hte : TeOk P te) {T T' Tr : TypeId} {d : Nat} {s x : SV} {v u : Value} {e : Eff} (hT2 : sliceLike te T' = true) (h : (appendOp te R.hp d T s x).run = some e)
    (hs : SV.rel R s v) (hx : SV.rel R x u) : Makes P R w (Builtin.append_ #[T, T'] Tr #[v, u]) e := by
  have hT' := sliceLike_run hte hT2
  unfold appendOp at h
  split at h
  · rename_i el _ _ hT
    obtain ⟨ds, h1, h2⟩ := (hte T _ hT).desc
    simp only at h2
    subst h2
    split at h
    · rename_i size bytes desc zero t hei
      have he := hte el _ hei
      split at h
      · cases h
      · rename_i hc
        simp only [not_or] at hc
        obtain ⟨hts, hs0, hb0⟩ := hc
        have hts : t.size = size := by simpa using hts
        have ht : 0 < t.size := by omega
        split at h
        · rename_i ys hys
          have hsrc : ∃ news, Src P R w t ys u news := by
            split at hys
            · exact str_src hys hx
            · exact asList_src hm ht hys hx
          obtain ⟨news, hsrc⟩ := hsrc
          split at h
          · rename_i c ep
            split at h
            · rename_i t' xs hc
              split at h
              · rename_i xs' hxs
                obtain ⟨hg, h'⟩ := OT.run_guard h
                cases h'
                obtain ⟨et, rfl⟩ := rowList_some hxs
                subst et
                simp only [SV.rel] at hs
                exact append_own_sound hm h1 he hT' hts (hpGet_some hc) hs.2 hsrc (of_decide_eq_true hg) (Nat.pos_of_ne_zero hb0)
              · cases h
            · cases h
          · rename_i c ep
            split at h
            · rename_i t' xs hc
              split at h
              · rename_i xs' hxs
                dsimp only at h
                split at h
                · cases h
                · rename_i hfr
                  obtain ⟨hg, h'⟩ := OT.run_guard h
                  cases h'
                  obtain ⟨et, rfl⟩ := rowList_some hxs
                  subst et
                  simp only [Bool.and_eq_true, decide_eq_true_eq] at hg
                  simp only [SV.rel] at hs
                  have hc' := hpGet_some hc
                  have hp := Ctx.own_part hc' hs.2.1
                  obtain ⟨olds, hold⟩ := src_part (P := P) hm hc' (.inl rfl) hp
                  obtain ⟨ad, len, hv⟩ := hs.2.2 _ hc' rfl
                  obtain ⟨_, _, ad', cap, hv', hcap, _⟩ := Ctx.part_open hc' hp
                  rw [hv] at hv'
                  cases hv'
                  subst hv
                  simp only [Chunk.shape, List.drop_zero, List.take_length] at hold ⊢
                  exact grown_row (te := te) hm h1 he hT' ht hts hsrc hold (by omega) hg.1 (Nat.pos_of_ne_zero hb0) (fresh_none hfr)
              · cases h
            · cases h
          · dsimp only at h
            split at h
            · cases h
            · rename_i hfr
              obtain ⟨hg, h'⟩ := OT.run_guard h
              cases h'
              simp only [SV.rel] at hs
              obtain ⟨ad, rfl⟩ := hs
              exact append_emp_sound hm h1 he hT' ht hts (fresh_none hfr) hsrc (of_decide_eq_true hg) (Nat.pos_of_ne_zero hb0)
          · cases h
        · cases h
    · cases h
  · cases h
theorem row_write {t : Ty} {xs ys : List t.T} {arr : Array Value} {base off n : Nat} {news : List Value} (hrow : RowIn R arr base t xs) (hsz : base + xs.length * t.size ≤ arr.size) (hn : off + n ≤ xs.length) (hny : n ≤ ys.length)
    (hl : news.length = n * t.size) (hnews : ∀ i, i < n → Rep R.F t (ys.getD i t.d) (seg news (i * t.size) t.size)) :
    RowIn R (arr.toList.take (base + off * t.size) ++ news ++ arr.toList.drop (base + off * t.size + news.length)).toArray base t (xs.take off ++ (ys.take n ++ xs.drop (off + n))) := by
  intro i hi
  simp only [List.length_append, List.length_take, List.length_drop] at hi
  have hi' : i < xs.length := by omega
  have hoff : (off + n) * t.size ≤ xs.length * t.size := Nat.mul_le_mul_right _ hn
  rw [Nat.add_mul] at hoff
  have hi1 : (i + 1) * t.size ≤ xs.length * t.size := Nat.mul_le_mul_right _ hi'
  rw [Nat.succ_mul] at hi1
  simp only
  by_cases c1 : i < off
  · have e1 : (xs.take off ++ (ys.take n ++ xs.drop (off + n))).getD i t.d = xs.getD i t.d := by
      simp only [List.getD_eq_getElem?_getD]
      rw [List.getElem?_append_left (by simp; omega), List.getElem?_take_of_lt c1]
    have : (i + 1) * t.size ≤ off * t.size := Nat.mul_le_mul_right _ c1
    rw [Nat.succ_mul] at this
    rw [e1, seg_write_out _ _ _ _ _ (by simp; omega) (by left; omega)]
    exact hrow i hi'
  · by_cases c2 : i < off + n
    · have e1 : (xs.take off ++ (ys.take n ++ xs.drop (off + n))).getD i t.d = ys.getD (i - off) t.d := by
        simp only [List.getD_eq_getElem?_getD]
        rw [List.getElem?_append_right (by simp; omega), List.getElem?_append_left (by simp; omega), List.getElem?_take_of_lt (by simp; omega)]
        congr 2
        simp; omega
      have hk1 : (i - off + 1) * t.size ≤ n * t.size := Nat.mul_le_mul_right _ (by omega)
      have hk2 : (i - off) * t.size + off * t.size = i * t.size := by rw [← Nat.add_mul]; congr 1; omega
      rw [Nat.succ_mul] at hk1
      have e2 : seg (arr.toList.take (base + off * t.size) ++ news ++ arr.toList.drop (base + off * t.size + news.length)) (base + i * t.size) t.size = seg news ((i - off) * t.size) t.size := by
        apply List.ext_getElem?
        intro j
        simp only [seg, List.getElem?_take, List.getElem?_drop]
        by_cases hj : j < t.size
        · simp only [hj, if_true]
          rw [List.getElem?_append_left (by simp; omega), List.getElem?_append_right (by simp; omega)]
          congr 1
          simp; omega
        · simp [hj]
      rw [e1, e2]
      exact hnews _ (by omega)
    · have e1 : (xs.take off ++ (ys.take n ++ xs.drop (off + n))).getD i t.d = xs.getD i t.d := by
        simp only [List.getD_eq_getElem?_getD]
        rw [List.getElem?_append_right (by simp; omega), List.getElem?_append_right (by simp; omega), List.getElem?_drop]
        congr 2
        simp; omega
      have : (off + n) * t.size ≤ i * t.size := Nat.mul_le_mul_right _ (by omega)
      rw [Nat.add_mul] at this
      rw [e1, seg_write_out _ _ _ _ _ (by simp; omega) (by right; omega)]
      exact hrow i hi'
end
end Sx
end Go.Proofs.Ytkedomfjjahjnaa

namespace Go.Proofs.Ytkedomfjjahjnaa
namespace Sx
open Go
section
variable {P : Program} {R : Ctx} {w : World}
theorem take_min {α : Type} (ys : List α) (k : Nat) : ys.take (min ys.length k) = ys.take k := by
  by_cases h : k ≤ ys.length
  · rw [Nat.min_eq_right h]
  · rw [Nat.min_eq_left (by omega), List.take_of_length_le (Nat.le_refl _), List.take_of_length_le (by omega)]
theorem drop_min {α : Type} (xs : List α) (k : Nat) : xs.drop (min k xs.length) = xs.drop k := by
  by_cases h : k ≤ xs.length
  · rw [Nat.min_eq_left h]
  · rw [Nat.min_eq_right (by omega), List.drop_of_length_le (Nat.le_refl _), List.drop_of_length_le (by omega)]
theorem copy_part_sound (hm : HpOk R w) {T T' Tr el : TypeId} {ti : TI} (hT : P.underlying T = some (.slice el)) (he : TiOk P el ti) {t : Ty} (hts : t.size = ti.size) {c ep off len : Nat} {xs ys : List t.T}
    (hc : R.hp c = some ⟨ep, .row t xs⟩) {v x : Value} {news : List Value} (hp : R.part c ep off len v) (hsrc : Src P R w t ys x news) :
    Makes P R w (Builtin.copy_ #[T, T'] Tr #[v, x]) ⟨.int (min ys.length len : Nat), [(c, ⟨ep, .row t (xs.take off ++ (ys.take (min ys.length len) ++ xs.drop (off + min ys.length len)))⟩)]⟩ := by
  obtain ⟨ht, hmx⟩ := row_of_hp hm hc
  obtain ⟨_, h2, ad, cap, rfl, hcap, h5⟩ := Ctx.part_open hc hp
  simp only [Chunk.shape] at h2 h5
  have hn : min ys.length len ≤ ys.length := Nat.min_le_left _ _
  have hn2 : min ys.length len ≤ len := Nat.min_le_right _ _
  have hr : inR ((min ys.length len : Nat) : Int) = true := inR_len (Nat.le_trans hn hsrc.max)
  have hf := hsrc.cells w (min ys.length len) (fun _ _ => rfl) hn
  rw [hts] at hf
  have hlen : (xs.take off ++ (ys.take (min ys.length len) ++ xs.drop (off + min ys.length len))).length = xs.length := by
    simp only [List.length_append, List.length_take, List.length_drop]; omega
  have hsh : (Chunk.row t (xs.take off ++ (ys.take (min ys.length len) ++ xs.drop (off + min ys.length len)))).shape = (Chunk.row t xs).shape := by
    simp only [Chunk.shape, hlen]
  have hnl : (news.take (min ys.length len * ti.size)).length = min ys.length len * t.size := by
    have : min ys.length len * t.size ≤ ys.length * t.size := Nat.mul_le_mul_right _ hn
    rw [List.length_take, hsrc.size, ← hts]; omega
  have hrep : ∀ i, i < min ys.length len → Rep R.F t (ys.getD i t.d) (seg (news.take (min ys.length len * ti.size)) (i * t.size) t.size) := fun i hi => by
    have h1 : (i + 1) * t.size ≤ min ys.length len * t.size := Nat.mul_le_mul_right _ hi
    rw [Nat.succ_mul] at h1
    have h2 : seg (news.take (min ys.length len * ti.size)) (i * t.size) t.size = seg news (i * t.size) t.size := by
      have := seg_seg news 0 (i * t.size) (min ys.length len * ti.size) t.size (by rw [← hts]; exact h1)
      simpa [seg] using this
    rw [h2]
    exact hsrc.rep i (by omega)
  have hch := hm.ch c _ hc
  have hone : ∀ u ∈ news.take (min ys.length len * ti.size), u.oneCell' = true := fun u hu => hsrc.one u (List.mem_of_mem_take hu)
  -- nothing is written
  have nothing : min ys.length len = 0 → (∀ a, ad = some a → True) → Makes P R w (Builtin.copy_ #[T, T'] Tr #[.slice ad len cap, x]) ⟨.int (min ys.length len : Nat), [(c, ⟨ep, .row t (xs.take off ++ (ys.take (min ys.length len) ++ xs.drop (off + min ys.length len)))⟩)]⟩ := fun h0 _ => by
    have hrun : (Builtin.copy_ #[T, T'] Tr #[.slice ad len cap, x]).run P w = .ok (.int .i64 (min ys.length len : Nat)) w := by
      rw [h0] at hf ⊢
      simp only [Nat.zero_mul, List.take_zero] at hf
      cases ad with
      | none => simp [Builtin.copy_, run_underlying hT, he.run_sizeOf w, hsrc.len w, h0, hf, goInt]
      | some a => simp [Builtin.copy_, run_underlying hT, he.run_sizeOf w, hsrc.len w, h0, hf, goInt, Go.storeCells]
    have hsame : xs.take off ++ (ys.take (min ys.length len) ++ xs.drop (off + min ys.length len)) = xs := by
      rw [h0]; simp
    have hupd : R.upd c ⟨ep, .row t xs⟩ = R := by
      unfold Ctx.upd
      cases R
      simp only [Ctx.mk.injEq, true_and]
      funext n
      split
      · rename_i hnc; subst hnc; exact hc.symm
      · rfl
    refine ⟨_, w, R, hrun, ⟨Ctx.Ext.refl R, ?_, hm⟩, by simp only [SV.rel, true_and]; exact hr⟩
    rw [hsame]
    have := congrArg Ctx.hp hupd
    exact this.symm
  by_cases h0 : min ys.length len = 0
  · exact nothing h0 (fun _ _ => trivial)
  · cases hσ : R.σ c with
    | none =>
      rw [hσ] at h5
      simp only at h5
      omega
    | some L =>
      rw [hσ] at h5
      obtain ⟨h6, h7⟩ := h5
      have had := h7 (by omega)
      subst had
      simp only [ChOk, hσ] at hch
      obtain ⟨_, _, hF, hU, arr, E, hb, ha, hl, hrow⟩ := hch
      have hoff : (off + min ys.length len) * t.size ≤ xs.length * t.size := Nat.mul_le_mul_right _ (by omega)
      rw [Nat.add_mul] at hoff
      obtain ⟨w', R', hst, haf⟩ := store_cells (P := P) (e := ep) (p := L.base + off * t.size) (vs := news.take (min ys.length len * ti.size)) hm
        (ch' := ⟨ep, .row t (xs.take off ++ (ys.take (min ys.length len) ++ xs.drop (off + min ys.length len)))⟩) hc rfl hσ hF hU hb rfl rfl hsh (by rw [hnl]; omega) hone
        (fun w' hw' => by
          simp only [ChOk, Ctx.upd, hσ]
          refine ⟨ht, by rw [hlen]; exact hmx, hF, hU, _, E, hw', ?_, by rw [hlen]; exact hl, ?_⟩
          · simp only [List.size_toArray, List.length_append, List.length_take, List.length_drop, Array.length_toList] at hnl ⊢
            omega
          · exact row_write hrow (by omega) (by omega) hn hnl hrep)
      refine ⟨.int .i64 ((min ys.length len : Nat) : Int), w', R', ?_, haf, by simp only [SV.rel, true_and]; exact hr⟩
      have hn' : Nat.min ys.length len = min ys.length len := rfl
      simp [Builtin.copy_, run_underlying hT, he.run_sizeOf w, hsrc.len w, hn', hf, hst, goInt]
theorem copyOp_sound (hm : HpOk R w) {te : TE} (hte : TeOk P te) {T T' Tr : TypeId} {x y : SV} {v u : Value} {e : Eff} (h : (copyOp te R.hp T x y).run = some e)
    (hs : SV.rel R x v) (hx : SV.rel R y u) : Makes P R w (Builtin.copy_ #[T, T'] Tr #[v, u]) e := by
  unfold copyOp at h
  split at h
  · rename_i el _ _ hT
    obtain ⟨ds, h1, h2⟩ := (hte T _ hT).desc
    simp only at h2
    subst h2
    split at h
    · rename_i size bytes desc zero t hei
      have he := hte el _ hei
      split at h
      · cases h
      · rename_i hc
        simp only [not_or] at hc
        obtain ⟨hts, hs0⟩ := hc
        have hts : t.size = size := by simpa using hts
        have ht : 0 < t.size := by omega
        split at h
        · rename_i ys hys
          have hsrc : ∃ news, Src P R w t ys u news := by
            split at hys
            · exact str_src hys hx
            · exact asList_src hm ht hys hx
          obtain ⟨news, hsrc⟩ := hsrc
          split at h
          · rename_i c ep
            split at h
            · rename_i t' xs hc
              split at h
              · rename_i xs' hxs
                cases h
                obtain ⟨et, rfl⟩ := rowList_some hxs
                subst et
                simp only [SV.rel] at hs
                have hc' := hpGet_some hc
                have := copy_part_sound (Tr := Tr) (T' := T') hm h1 he hts hc' (Ctx.own_part hc' hs.2) hsrc
                simp only [Chunk.shape, List.take_zero, List.nil_append, Nat.zero_add, take_min, drop_min] at this
                exact this
              · cases h
            · cases h
          · rename_i c ep off len
            split at h
            · rename_i t' xs hc
              split at h
              · rename_i xs' hxs
                cases h
                obtain ⟨et, rfl⟩ := rowList_some hxs
                subst et
                simp only [SV.rel] at hs
                have := copy_part_sound (Tr := Tr) (T' := T') hm h1 he hts (hpGet_some hc) hs.2 hsrc
                simp only [take_min] at this
                exact this
              · cases h
            · cases h
          · cases h
        · cases h
    · cases h
  · cases h
end
end Sx
end Go.Proofs.Ytkedomfjjahjnaa

namespace Go.Proofs.Ytkedomfjjahjnaa
namespace Sx
open Go
section
variable {P : Program} {R : Ctx} {w : World}
theorem run_arrayAt' {arr e : TypeId} {n : Nat} (a : Option Addr) (len cap : Nat) (h : P.underlying arr = some (.array n e)) (hn : n ≤ len) : (Instr.arrayAt arr (.slice a len cap)).run P w = .ok (.pointer a) w := by
  have h1 : ¬ len < n := by omega
  simp only [Instr.arrayAt, Sem.run_bind, run_underlying h, Result.andThen_ok, if_neg h1, Sem.run_pure]
theorem arrayPtr_sound {te : TE} (hte : TeOk P te) {T : TypeId} {x z : SV} {v : Value} (h : (arrayPtr te R.hp T x).run = some z) (hx : SV.rel R x v) : Gives P R w (Instr.arrayAt T v) z := by
  unfold arrayPtr at h
  split at h
  · rename_i sz by' n e ze ty hT
    obtain ⟨d, h1, h2⟩ := (hte T _ hT).desc
    simp only at h2
    subst h2
    split at h
    · cases h
    · rename_i ei hei
      split at h
      · cases h
      · rename_i hn0
        split at h
        · rename_i c ep
          split at h
          · rename_i hrs
            split at h
            · rename_i m hm'
              obtain ⟨hg, h'⟩ := OT.run_guard h
              cases h'
              have hnm := of_decide_eq_true hg
              simp only [SV.rel] at hx
              obtain ⟨bb, hcc, hb1, hb2⟩ := rowSize_some hrs
              obtain ⟨bb', hcc', _, hb4⟩ := rowLen_some hm'
              rw [hcc] at hcc'
              cases Option.some.inj hcc'
              have hp := Ctx.own_part hcc hx.2
              rw [hb4] at hp
              obtain ⟨_, _, ad, cap, rfl, h4, h5⟩ := Ctx.part_open hcc hp
              refine ⟨_, run_arrayAt' ad m cap h1 hnm, ?_⟩
              cases hσ : R.σ c with
              | none => rw [hσ] at h5; simp only at h5; omega
              | some L =>
                rw [hσ] at h5
                have := h5.2 (by omega)
                subst this
                simp only [SV.rel]
                refine ⟨⟨_, rfl⟩, _, hcc, Nat.le_refl _, fun _ => ⟨L, hσ, ?_⟩⟩
                simp
            · cases h
          · cases h
        · rename_i c ep off len
          split at h
          · rename_i hrs
            obtain ⟨hg, h'⟩ := OT.run_guard h
            cases h'
            have hnm := of_decide_eq_true hg
            simp only [SV.rel] at hx
            obtain ⟨bb, hcc, hb1, hb2⟩ := rowSize_some hrs
            obtain ⟨_, _, ad, cap, rfl, h4, h5⟩ := Ctx.part_open hcc hx.2
            refine ⟨_, run_arrayAt' ad len cap h1 hnm, ?_⟩
            cases hσ : R.σ c with
            | none => rw [hσ] at h5; simp only at h5; omega
            | some L =>
              rw [hσ] at h5
              have := h5.2 (by omega)
              subst this
              simp only [SV.rel]
              exact ⟨⟨_, rfl⟩, _, hcc, Nat.le_refl _, fun _ => ⟨L, hσ, by simp⟩⟩
          · cases h
        · rename_i t xs
          split at h
          · rename_i hts
            obtain ⟨hg, h'⟩ := OT.run_guard h
            cases h'
            have hnm := of_decide_eq_true hg
            simp only [SV.rel] at hx
            obtain ⟨_, ad, cap, hv, hc, hr⟩ := hx
            cases hv
            refine ⟨_, run_arrayAt' ad xs.length cap h1 hnm, ?_⟩
            rcases hr with hr | ⟨b, o, arr, E, fz, rfl, hF, hs, hr⟩
            · rw [hr] at hnm; simp at hnm; omega
            · simp only [SV.rel]
              exact ⟨fun e => by rw [e] at hnm; simp at hnm; omega, by omega, b, o, arr, E, fz, rfl, hF, hs, hr⟩
          · cases h
        · cases h
  · cases h
def Ctx.more (R : Ctx) (w w' : World) : Ctx := { R with F := fun b => if b < w.heap.size then R.F b else w'.heap[b]? }
theorem more_ok (hm : HpOk R w) {w₁ : World} (keep : ∀ b, b < w.heap.size → w₁.heap[b]? = w.heap[b]?) (hs : Like w w₁ := by exact ⟨rfl, rfl, rfl⟩) : After R (R.more w w₁) w₁ [] := by
  have hFlt : ∀ b o, R.F b = some o → b < w.heap.size := fun b o h => (Array.getElem?_eq_some_iff.1 (hm.F b o h)).1
  have hx2 : R.Ext (R.more w w₁) := ⟨fun b o h => by simp [Ctx.more, hFlt b o h, h], rfl, fun c ch hc => ⟨ch, hc, Nat.le_refl _, fun _ => ⟨rfl, rfl⟩⟩⟩
  refine ⟨hx2, rfl, fun b o h => ?_, fun b o h => ?_, fun c ch hc => ?_, hm.apart, fun b o h => ?_, hm.env.trans hs⟩
  rotate_right
  · simp only [Ctx.more] at h ⊢
    split at h
    · exact hm.FU b o h
    · cases hU : R.U b with
      | none => rfl
      | some o' => exact absurd (Array.getElem?_eq_some_iff.1 (hm.U b o' hU)).1 (by assumption)
  · simp only [Ctx.more] at h
    split at h
    · rename_i hb
      rw [keep b hb]; exact hm.F b o h
    · exact h
  · have := hm.U b o h
    rw [keep b (Array.getElem?_eq_some_iff.1 this).1, this]
  · have hch := hm.ch c ch hc
    obtain ⟨ep, body⟩ := ch
    cases body with
    | row t xs =>
      simp only [ChOk] at hch ⊢
      refine ⟨hch.1, hch.2.1, ?_⟩
      replace hch := hch.2.2
      show match R.σ c with | none => _ | some L => _
      cases hL : R.σ c with
      | none => rw [hL] at hch; exact hch
      | some L =>
        rw [hL] at hch
        obtain ⟨c1, c2, arr, E, c3, c4, c5, c6⟩ := hch
        have hb := (Array.getElem?_eq_some_iff.1 c3).1
        refine ⟨by simp only [Ctx.more, hb, if_true]; exact c1, c2, arr, E, (keep _ hb).trans c3, c4, c5, fun i hi => Rep_mono hx2.F _ _ _ (c6 i hi)⟩
    | frz t xs =>
      simp only [ChOk] at hch ⊢
      refine ⟨hch.1, hch.2.1, ?_⟩
      replace hch := hch.2.2
      show match R.σ c with | none => _ | some L => _
      cases hL : R.σ c with
      | none => rw [hL] at hch; exact hch
      | some L =>
        rw [hL] at hch
        obtain ⟨arr, E, fz, c3, c4, c5, c6⟩ := hch
        exact ⟨arr, E, fz, hx2.F _ _ c3, c4, c5, fun i hi => Rep_mono hx2.F _ _ _ (c6 i hi)⟩
    | cells vs =>
      simp only [ChOk] at hch ⊢
      obtain ⟨L, hL, c1, c2, arr, E, c3, c4, c5, c6, c7⟩ := hch
      have hb := (Array.getElem?_eq_some_iff.1 c3).1
      exact ⟨L, hL, by simp only [Ctx.more, hb, if_true]; exact c1, c2, arr, E, (keep _ hb).trans c3, c4, c5, SV.relL_ext hx2 _ _ c6, c7⟩
theorem bytesOf_sound (hm : HpOk R w) {te : TE} (hte : TeOk P te) {src dst : TypeId} {x : SV} {v : Value} {s : List UInt8} (h : bytesOf te src dst x = some s) (hx : SV.rel R x v) :
    ∃ u w' R', (convert src dst v).run P w = .ok u w' ∧ After R R' w' [] ∧ SV.rel R' (.lst .u8 s) u := by
  unfold bytesOf at h
  split at h
  · rename_i sz by' e ze ty hT
    obtain ⟨d, h1, h2⟩ := (hte dst _ hT).desc
    simp only at h2
    subst h2
    split at h
    · rename_i sz2 by2 ze2 ty2 hE
      obtain ⟨d2, g1, g2⟩ := (hte e _ hE).desc
      simp only at g2
      subst g2
      split at h
      · rename_i s'
        split at h
        · rename_i hs
          cases h
          obtain ⟨ti, hti⟩ := Option.isSome_iff_exists.1 hs
          obtain ⟨d3, k1, _⟩ := (hte src ti hti).desc
          simp only [SV.rel] at hx
          obtain ⟨rfl, hl⟩ := hx
          have hrun := Lib.run_convert_string_bytes (P := P) w src dst e ⟨s.toArray⟩ k1 h1 g1
          have keep : ∀ b, b < w.heap.size → (Lib.bytesWorld w e ⟨s.toArray⟩).heap[b]? = w.heap[b]? := fun b hb => Lib.bytesWorld_at_old w e _ b hb
          refine ⟨_, _, R.more w (Lib.bytesWorld w e ⟨s.toArray⟩), hrun, more_ok hm keep, ?_⟩
          have hsz : (⟨s.toArray⟩ : ByteArray).size = s.length := by simp [ByteArray.size]
          simp only [SV.rel]
          refine ⟨hl, some ⟨w.heap.size, 0, none⟩, _, by rw [hsz], ?_, ?_⟩
          · have := grownCap_ge w (⟨s.toArray⟩ : ByteArray).size 0 e
            rw [hsz] at this
            exact this
          · by_cases he : s = []
            · exact .inl he
            · right
              refine ⟨w.heap.size, 0, Lib.bytesCells w e ⟨s.toArray⟩, e, ((Lib.bytesCells w e ⟨s.toArray⟩).size, (Lib.bytesCells w e ⟨s.toArray⟩).size + 1), rfl, ?_, ?_, fun i hi => ?_⟩
              · simp only [Ctx.more, Nat.lt_irrefl, if_false]
                exact Lib.bytesWorld_at_new w e _
              · simp [Lib.bytesCells, Ty.size]
              · have hc : (Lib.bytesCells w e ⟨s.toArray⟩).toList = (s.map vu8) ++ List.replicate (grownCap w (⟨s.toArray⟩ : ByteArray).size 0 e - (⟨s.toArray⟩ : ByteArray).size) (.int .u8 0) := by
                  simp [Lib.bytesCells, vu8]
                rw [hc]
                simp only [Ty.size, Nat.mul_one, Nat.zero_add]
                have hseg : seg ((s.map vu8) ++ List.replicate (grownCap w (⟨s.toArray⟩ : ByteArray).size 0 e - (⟨s.toArray⟩ : ByteArray).size) (.int .u8 0)) i 1 = [vu8 (s.getD i 0)] := by
                  simp only [seg]
                  rw [List.drop_append_of_le_length (by simp; omega), List.drop_eq_getElem_cons (by simpa using hi)]
                  simp [List.getD_eq_getElem?_getD, hi]
                rw [hseg]
                rfl
        · cases h
      · cases h
    · cases h
  · cases h
def Ctx.letGo (R : Ctx) (c : Nat) (ch : Ch) (b : Nat) (o : Obj) : Ctx :=
  ⟨fun b' => if b' = b then some o else R.F b', R.U, fun c' => if c' = c then none else R.σ c', fun c' => if c' = c then some ch else R.hp c'⟩
theorem letGo_ok (hm : HpOk R w) {c e : Nat} {t : Ty} {xs : List t.T} {L : Loc} {w₁ : World} {o : Obj} (hc : R.hp c = some ⟨e, .row t xs⟩) (hσ : R.σ c = some L)
    (keep : ∀ b, b ≠ L.block → w₁.heap[b]? = w.heap[b]?) (hb : w₁.heap[L.block]? = some o) (hs : Like w w₁) : After R (R.letGo c ⟨e + 1, .row .u8 []⟩ L.block o) w₁ [(c, ⟨e + 1, .row .u8 []⟩)] := by
  have h0 := hm.ch c _ hc
  simp only [ChOk, hσ] at h0
  obtain ⟨_, _, hF, hU, _⟩ := h0
  have hx : R.Ext (R.letGo c ⟨e + 1, .row .u8 []⟩ L.block o) := ⟨fun b o' h => by
      have : b ≠ L.block := fun e' => by rw [e', hF] at h; cases h
      simp only [Ctx.letGo, if_neg this, h], rfl, fun c' ch' hc' => by
      by_cases h1 : c' = c
      · subst h1
        rw [hc] at hc'
        cases hc'
        exact ⟨⟨e + 1, .row .u8 []⟩, by simp only [Ctx.letGo, if_true], Nat.le_succ e, fun e' => absurd e' (by simp)⟩
      · exact ⟨ch', by simp only [Ctx.letGo, if_neg h1, hc'], Nat.le_refl _, fun _ => ⟨rfl, by simp only [Ctx.letGo, if_neg h1]⟩⟩⟩
  refine ⟨hx, rfl, fun b o' h => ?_, fun b o' h => ?_, fun c' ch' hc' => ?_, fun c1 c2 ch1 ch2 L1 L2 g1 g2 g3 g4 g5 g6 g7 => ?_, fun b o' h => ?_, hm.env.trans hs⟩
  · simp only [Ctx.letGo] at h
    split at h
    · rename_i h1
      subst h1
      rw [hb]; exact h
    · rename_i h1
      rw [keep b h1]; exact hm.F b o' h
  · have h1 : b ≠ L.block := fun e' => by
      have h' : R.U b = some o' := h
      rw [e', hU] at h'; cases h'
    rw [keep b h1]; exact hm.U b o' h
  · by_cases h1 : c' = c
    · subst h1
      simp only [Ctx.letGo, if_true] at hc'
      cases hc'
      simp only [ChOk, Ctx.letGo, if_true]
      exact ⟨by decide, by simp, trivial⟩
    · simp only [Ctx.letGo, if_neg h1] at hc'
      have hch := hm.ch c' ch' hc'
      have hs : (R.letGo c ⟨e + 1, .row .u8 []⟩ L.block o).σ c' = R.σ c' := by simp only [Ctx.letGo, if_neg h1]
      have hblk : ∀ L', R.σ c' = some L' → ch'.body.mut = true → L'.block ≠ L.block := fun L' h2 h3 h4 => h1 (hm.apart c' c _ _ _ _ hc' hc h3 rfl h2 hσ h4)
      have hFn : ∀ b, b ≠ L.block → R.F b = none → (R.letGo c ⟨e + 1, .row .u8 []⟩ L.block o).F b = none := fun b h2 h3 => by simp only [Ctx.letGo, if_neg h2, h3]
      obtain ⟨ep, body⟩ := ch'
      cases body with
      | row t ys =>
        simp only [ChOk] at hch ⊢
        rw [hs]
        refine ⟨hch.1, hch.2.1, ?_⟩
        replace hch := hch.2.2
        cases hL : R.σ c' with
        | none => rw [hL] at hch; exact hch
        | some L' =>
          rw [hL] at hch
          obtain ⟨c1, c2, arr, E, c3, c4, c5, c6⟩ := hch
          have hne := hblk L' hL rfl
          exact ⟨hFn _ hne c1, c2, arr, E, (keep _ hne).trans c3, c4, c5, fun i hi => Rep_mono hx.F _ _ _ (c6 i hi)⟩
      | frz t ys =>
        simp only [ChOk] at hch ⊢
        rw [hs]
        refine ⟨hch.1, hch.2.1, ?_⟩
        replace hch := hch.2.2
        cases hL : R.σ c' with
        | none => rw [hL] at hch; exact hch
        | some L' =>
          rw [hL] at hch
          obtain ⟨arr, E, fz, c3, c4, c5, c6⟩ := hch
          exact ⟨arr, E, fz, hx.F _ _ c3, c4, c5, fun i hi => Rep_mono hx.F _ _ _ (c6 i hi)⟩
      | cells vs =>
        simp only [ChOk] at hch ⊢
        obtain ⟨L', hL, c1, c2, arr, E, c3, c4, c5, c6, c7⟩ := hch
        have hne := hblk L' hL rfl
        exact ⟨L', by rw [hs]; exact hL, hFn _ hne c1, c2, arr, E, (keep _ hne).trans c3, c4, c5, SV.relL_ext hx _ _ c6, c7⟩
  · by_cases h1 : c1 = c
    · subst h1
      simp only [Ctx.letGo, if_true] at g5
      cases g5
    · by_cases h2 : c2 = c
      · subst h2
        simp only [Ctx.letGo, if_true] at g6
        cases g6
      · simp only [Ctx.letGo, if_neg h1] at g1 g5
        simp only [Ctx.letGo, if_neg h2] at g2 g6
        exact hm.apart _ _ _ _ _ _ g1 g2 g3 g4 g5 g6 g7
  · simp only [Ctx.letGo] at h
    split at h
    · rename_i h1
      subst h1
      exact hU
    · exact hm.FU b o' h
theorem bytesConst_some {te : TE} {hp : Hp} {src dst : TypeId} {x : SV} {c e : Nat} {s : List UInt8} (h : bytesConst te hp src dst x = some (c, e, s)) :
    src = dst ∧ (∃ sz by' E ze ty sz2 by2 ze2 ty2, te dst = some ⟨sz, by', .slice E, ze, ty⟩ ∧ te E = some ⟨sz2, by2, .int .u8, ze2, ty2⟩) ∧ x = .own c e ∧ hpGet hp c e = some (.row .u8 s) ∧ s ≠ [] := by
  unfold bytesConst at h
  split at h
  · rename_i hs
    split at h
    · rename_i h1
      split at h
      · rename_i h2
        split at h
        · split at h
          · rename_i h3
            cases h
            exact ⟨Nat.eq_of_beq_eq_true hs, ⟨_, _, _, _, _, _, _, _, _, h1, h2⟩, rfl, h3, by simp⟩
          · cases h
        · cases h
      · cases h
    · cases h
  · cases h
theorem bytesConst_sound (hm : HpOk R w) {te : TE} (hte : TeOk P te) {src dst : TypeId} {x : SV} {v : Value} {c e : Nat} {s : List UInt8} (h : bytesConst te R.hp src dst x = some (c, e, s)) (hx : SV.rel R x v) :
    Makes P R w (convert src dst v) ⟨.lst .u8 s, [(c, ⟨e + 1, .row .u8 []⟩)]⟩ := by
  obtain ⟨rfl, ⟨sz, by', E, ze, ty, sz2, by2, ze2, ty2, hT, hE⟩, rfl, hc, hs⟩ := bytesConst_some h
  obtain ⟨d, h1, h2⟩ := (hte src _ hT).desc
  simp only at h2
  subst h2
  obtain ⟨d2, g1, g2⟩ := (hte E _ hE).desc
  simp only at g2
  subst g2
  have hc := hpGet_some hc
  simp only [SV.rel] at hx
  have hp := Ctx.own_part hc hx.2
  obtain ⟨_, _, ad, cap, rfl, h4, h5⟩ := Ctx.part_open hc hp
  have hlen : 0 < s.length := List.length_pos_iff.2 hs
  cases hσ : R.σ c with
  | none =>
    rw [hσ] at h5
    simp only [Chunk.shape] at h4 h5
    omega
  | some L =>
    rw [hσ] at h5
    simp only [Chunk.shape, Ty.size] at h4 h5
    have hcap : 0 < cap := by omega
    have had := h5.2 hcap
    subst had
    have h0 := hm.ch c _ hc
    simp only [ChOk, hσ] at h0
    obtain ⟨_, hl, hF, hU, arr, E', k1, k2, k3, k4⟩ := h0
    have hsh : w.shape? L.block = some (E', arr.size) := by unfold World.shape?; rw [k1]
    have hfr : (w.freeze ⟨L.block, arr.size, none⟩ 1).heap = w.heap.modify L.block fun
      | .cells c elem (lo, hi) => .cells c elem (if lo == hi then (arr.size, arr.size + 1) else (min lo arr.size, max hi (arr.size + 1)))
      | o => o := rfl
    have hlt := (Array.getElem?_eq_some_iff.1 k1).1
    have hb : (w.freeze ⟨L.block, arr.size, none⟩ 1).heap[L.block]? = some (.cells arr E' (arr.size, arr.size + 1)) := by
      rw [hfr, Array.getElem?_modify, if_pos rfl, k1]
      rfl
    have keep : ∀ b, b ≠ L.block → (w.freeze ⟨L.block, arr.size, none⟩ 1).heap[b]? = w.heap[b]? := fun b hb => by
      rw [hfr, Array.getElem?_modify, if_neg (fun e => hb e.symm)]
    have hlk : Like w (w.freeze ⟨L.block, arr.size, none⟩ 1) := ⟨rfl, rfl, rfl⟩
    refine ⟨.slice (some ⟨L.block, L.base + 0 * 1, none⟩) s.length cap, w.freeze ⟨L.block, arr.size, none⟩ 1, R.letGo c ⟨e + 1, .row .u8 []⟩ L.block _, ?_, letGo_ok hm hc hσ keep hb hlk, ?_⟩
    · simp [convert, run_underlying h1, run_underlying g1, markStringish, hsh, Chunk.shape]
    · simp only [SV.rel, Rep]
      refine ⟨hl, _, cap, rfl, h4, .inr ⟨L.block, L.base, arr, E', (arr.size, arr.size + 1), by simp, by simp only [Ctx.letGo, if_true], by omega, fun i hi => ?_⟩⟩
      have hr := k4 i hi
      simp only [Ty.size] at hr ⊢
      exact Rep_mono (letGo_ok hm hc hσ keep hb hlk).ext.F _ _ _ hr
theorem nilTest_sound {te : TE} (hte : TeOk P te) {T : TypeId} {x z : SV} {v y : Value} (h : (nilTest te T x).run = some z) (hx : SV.rel R x v) (hy : ∃ n c, y = .slice none n c) :
    (∃ q l k, v = .slice q l k) ∧ ∃ u, (binOp .eql T v y).run P w = .ok u w ∧ SV.rel R z u := by
  unfold nilTest at h
  split at h
  · rename_i sz by' e ze ty hT
    obtain ⟨d, h1, h2⟩ := (hte T _ hT).desc
    simp only at h2
    subst h2
    obtain ⟨n, c, rfl⟩ := hy
    split at h
    · rename_i t xs
      simp only [SV.rel] at hx
      obtain ⟨_, ad, cap, hv, _, hr⟩ := hx
      cases hv
      refine ⟨⟨_, _, _, rfl⟩, ?_⟩
      have hrun := Lib.run_eql_slice_nil (P := P) w T e ad xs.length cap n c h1
      refine ⟨_, hrun, ?_⟩
      cases hb : xs.isEmpty
      · rw [hb] at h
        cases h
        simp only [SV.rel]
        rcases hr with rfl | ⟨b, o, arr, E, fz, rfl, _⟩
        · cases hb
        · rfl
      · rw [hb] at h
        cases h
        simp only [SV.rel]
        exact ⟨_, rfl⟩
    · cases h
      simp only [SV.rel] at hx
      obtain ⟨ad, rfl⟩ := hx
      refine ⟨⟨_, _, _, rfl⟩, _, Lib.run_eql_slice_nil w T e ad 0 0 n c h1, ?_⟩
      simp only [SV.rel]
      exact ⟨_, rfl⟩
    · cases h
  · cases h
end
end Sx
end Go.Proofs.Ytkedomfjjahjnaa

namespace Go.Proofs.Ytkedomfjjahjnaa
namespace Sx
open Go
def CallPost (R : Ctx) : Out → Ending → World → Prop
  | .ret e, en, w' => ∃ v R', en = .returned v ∧ After R R' w' e.upd ∧ SV.rel R' e.v v
  | .pan sv u, en, w' => ∃ v R', en = .panicked [{ v, recovered := false }] ∧ After R R' w' u ∧ SV.rel R' sv v
def CallsF (P : Program) (f : FuncId) (vs : Array Value) (w : World) (Q : Ending → World → Prop) : Prop :=
  (∃ fn, P.funcs[f]? = some fn ∧ (fn.name == "runtime.NumGoroutine") = false ∧ fn.body.isNone = false ∧ Calls P f vs w Q) ∨
  ∃ v w', (callFunc f vs).run P w = .ok (.value v) w' ∧ Q (.returned v) w'
structure SummOk (P : Program) (f : FuncId) (s : Summ) : Prop where
  calls : ∀ (R : Ctx) (w : World) (d : Nat) (args : List SV) (vs : List Value) (out : Out), HpOk R w → SV.relL R args vs → (s.f d args R.hp).run = some out → CallsF P f vs.toArray w (CallPost R out)
def EnvOk (P : Program) (Φ : Env) : Prop := ∀ f s, Φ f = some s → SummOk P f s
section
variable {P : Program} {R : Ctx} {w : World}
theorem idxOf_rel {x : SV} {i : Int} {v : Value} (h : idxOf x = some i) (hx : SV.rel R x v) : ∃ kd, v = .int kd i := by
  unfold idxOf at h
  split at h
  · cases h
    simp only [SV.rel] at hx
    exact ⟨_, hx.1⟩
  · cases h
    simp only [SV.rel] at hx
    exact ⟨_, hx⟩
  · cases h
    simp only [SV.rel] at hx
    exact ⟨_, hx⟩
  · cases h
theorem methAt_mem : ∀ {ms : List (String × FuncId)} {name : String} {f : FuncId}, methAt ms name = some f → (name, f) ∈ ms
  | [], _, _, h => by cases h
  | (n, g) :: r, name, f, h => by
    simp only [methAt] at h
    cases hb : n == name
    · rw [hb] at h
      exact List.mem_cons_of_mem _ (methAt_mem h)
    · rw [hb] at h
      cases h
      have : n = name := by simpa using hb
      subst this
      exact List.mem_cons_self ..
theorem methOf_run {te : TE} (hte : TeOk P te) {t : TypeId} {name : String} {f : FuncId} (h : methOf te t name = some f) (y : Value) (n : Nat) (hn : n = P.types.size + Made.depth) : (method n t y name).run P w = .ok (f, y) w := by
  unfold methOf at h
  split at h
  · rename_i sz by' ms ze ty hT
    obtain ⟨d, hu, hd⟩ := (hte t _ hT).desc
    obtain ⟨⟨e, rfl⟩, hm⟩ := hd
    obtain ⟨i, m, h1, h2, h3, h4⟩ := hm _ (methAt_mem h)
    subst hn
    have hfuel : P.types.size + Made.depth = (P.types.size + Made.depth - 1) + 1 := by
      have : 0 < Made.depth := by decide
      omega
    rw [hfuel]
    simp [method, typeInfo, h1, h2, h3, h4, follow, receiverAt, run_underlying hu, Place.get]
  · cases h
theorem eval_rel {st : St} {a : Act} (h : StOk R st a w) (x : Operand) : SV.rel R (st.eval x) (a.eval x) := by
  cases x with
  | tmp t =>
    simp only [St.eval, Act.eval]
    have hl := SV.relL_length h.tm
    simp only [Array.length_toList] at hl
    by_cases ht : t < st.tm.length
    · have ht' : t < a.tmps.size := by simpa [hl] using ht
      have := SV.relL_get h.tm t ht (by simpa using ht')
      simpa [List.getD_eq_getElem?_getD, List.getElem?_eq_getElem ht, Array.getD, ht'] using this
    · simp [List.getD_eq_getElem?_getD, List.getElem?_eq_none (Nat.le_of_not_lt ht), SV.rel]
  | const v =>
    simp only [St.eval, Act.eval, ofVal]
    split
    · rename_i cs
      split
      · rename_i h1
        simp only [SV.rel]
        exact ⟨cs.toList, by simp, relL_ofCell _, fun u hu => List.all_eq_true.1 h1 u hu⟩
      · simp only [SV.rel]
    · exact rel_ofCell _
  | global g => simp [St.eval, SV.rel]
  | func f =>
    simp [St.eval, Act.eval, SV.rel, SV.relL]
theorem map_arr {α β : Type} (f : α → β) (xs : Array α) : Array.map f xs = (xs.toList.map f).toArray := by
  apply Array.ext'
  simp
theorem rel_map {st : St} {a : Act} (h : StOk R st a w) : ∀ (l : List Operand), SV.relL R (l.map st.eval) (l.map a.eval)
  | [] => relL_nil
  | x :: l => by
    simp only [List.map_cons, SV.relL]
    exact ⟨_, _, rfl, eval_rel h x, rel_map h l⟩
theorem parts_rel {st : St} {a : Act} (h : StOk R st a w) (ps : Array (Nat × Operand)) : PartsRel R (ps.toList.map fun p => (p.1, st.eval p.2)) (ps.map fun (i, x) => (i, a.eval x)).toList := by
  refine ⟨by simp, fun i hi hi' => ?_⟩
  simp only [List.getElem_map, Array.toList_map, true_and]
  exact eval_rel h _
theorem pureV_some {x : OT SV} {o : Out} (h : (pureV x).run = some o) : ∃ z, x.run = some z ∧ o = .ret ⟨z, []⟩ := by
  obtain ⟨z, h1, h2⟩ := OT.run_map h
  exact ⟨z, h1, h2⟩
theorem eff_some {x : OT Eff} {o : Out} (h : (eff x).run = some o) : ∃ e, x.run = some e ∧ o = .ret e := by
  obtain ⟨z, h1, h2⟩ := OT.run_map h
  exact ⟨z, h1, h2⟩
def OpPost (R : Ctx) (a : Act) (dst : Option Tmp) (out : Out) (next : Act → World → Prop) (Q : Exit → Act → World → Prop) : Prop :=
  match out with
  | .ret e => ∀ R' w' v, After R R' w' e.upd → SV.rel R' e.v v → next (a.put dst v) w'
  | .pan sv u => ∀ R' w' v, After R R' w' u → SV.rel R' sv v → Q (.panic [{ v, recovered := false }]) a w'
theorem wp_gives {o : Oper} {a : Act} {z : SV} {next : Act → World → Prop} {Q : Exit → Act → World → Prop} {s : Sem Value} (hm : HpOk R w) (hs : execOp a.eval o = do pure (.value (← s))) (h : Gives P R w s z)
    (hn : OpPost R a o.dst (.ret ⟨z, []⟩) next Q) : o.wp P a w next Q := by
  obtain ⟨v, h1, h2⟩ := h
  unfold Oper.wp
  rw [hs]
  simp only [Sem.run_bind, h1, Result.andThen_ok, Sem.run_pure]
  exact hn R w v (After.nothing hm) h2
theorem wp_makes {o : Oper} {a : Act} {e : Eff} {next : Act → World → Prop} {Q : Exit → Act → World → Prop} {s : Sem Value} (hs : execOp a.eval o = do pure (.value (← s))) (h : Makes P R w s e)
    (hn : OpPost R a o.dst (.ret e) next Q) : o.wp P a w next Q := by
  obtain ⟨v, w', R', h1, h2, h3⟩ := h
  unfold Oper.wp
  rw [hs]
  simp only [Sem.run_bind, h1, Result.andThen_ok, Sem.run_pure]
  exact hn R' w' v h2 h3
theorem loadVar_sound (hm : HpOk R w) {te : TE} (hte : TeOk P te) {T : TypeId} {ti : TI} (hT : te T = some ti) {x : SV} {v : Value} {cs : List SV} (hx : SV.rel R x v) (h : (Sx.loadCells R.hp ti.size x).run = some cs) :
    ∃ ad, v = .pointer (some ad) ∧ Gives P R w (loadVar T ad) (mkVal ti.desc.agg cs) := by
  have ht := hte T ti hT
  obtain ⟨b, o, arr, E, fz, rfl, hb, hsz, hr, hone⟩ := loadCells_sound hm hx h
  refine ⟨_, rfl, ?_⟩
  cases ha : ti.desc.agg
  · have h1 := ht.one ha
    rw [h1] at hsz hr
    refine ⟨arr[o], ?_, mkVal_rel hsz hr⟩
    simp only [loadVar, Sem.run_bind, ht.run_isAgg w, ha, Result.andThen_ok, Bool.false_eq_true, if_false]
    exact run_load_one hb hsz
  · refine ⟨_, ?_, mkAgg_rel hr hone⟩
    simp only [loadVar, Sem.run_bind, ht.run_isAgg w, ha, Result.andThen_ok, if_true, ht.run_sizeOf w, run_load_seg hb hsz, Sem.run_pure]
theorem storeVar_sound (hm : HpOk R w) {te : TE} (hte : TeOk P te) {T : TypeId} {ti : TI} (hT : te T = some ti) {x y : SV} {v u : Value} {l : List SV} {up : List (Nat × Ch)} (hx : SV.rel R x v) (hy : SV.rel R y u) (hl : y.cells = some l)
    (hsz : l.length = ti.size) (h : (Sx.storeCells R.hp l x).run = some up) : ∃ ad w' R', v = .pointer (some ad) ∧ (storeVar T ad u).run P w = .ok () w' ∧ After R R' w' up := by
  have ht := hte T ti hT
  obtain ⟨vs, h1, h2, h3⟩ := rel_cells hy hl
  have hlen := SV.relL_length h2
  obtain ⟨ad, w', R', rfl, h4, h5⟩ := storeCells_sound (P := P) hm hx h2 h
  refine ⟨ad, w', R', rfl, ?_, h5⟩
  simp only [storeVar, Sem.run_bind, ht.run_sizeOf w, Result.andThen_ok, h1, Sem.run_ite, List.size_toArray]
  rw [if_neg (by omega)]
  exact h4
theorem core_sound {te : TE} {Φ : Env} (hte : TeOk P te) (hΦ : EnvOk P Φ) {st : St} {a : Act} {o : Oper} {d : Nat} {out : Out} (hst : StOk R st a w) (h : (core te Φ st.hp d st.eval o.op).run = some out)
    {next : Act → World → Prop} {Q : Exit → Act → World → Prop} (hn : OpPost R a o.dst out next Q) : o.wp P a w next Q := by
  have hm := hst.mem
  have ev := eval_rel hst
  rw [← hst.hp] at h
  obtain ⟨dst, op, type, pos, after, guard⟩ := o
  simp only at h hn
  cases op <;> simp only [core] at h <;> try (cases h; done)
  case move x =>
    obtain ⟨z, h1, rfl⟩ := pureV_some h
    cases h1
    exact hn R w _ (After.nothing hm) (ev x)
  case assign x =>
    obtain ⟨z, h1, rfl⟩ := pureV_some h
    cases h1
    exact hn R w _ (After.nothing hm) (ev x)
  case pick c x y =>
    split at h
    · rename_i b hb
      obtain ⟨z, h1, rfl⟩ := pureV_some h
      have hc := ev c
      rw [hb] at hc
      simp only [SV.rel] at hc
      have hrun : (execOp a.eval (Oper.mk dst (.pick c x y) type pos after guard)).run P w = .ok (.value (if b then a.eval x else a.eval y)) w := by
        simp [execOp, hc, asBool]
      unfold Oper.wp
      rw [hrun]
      cases b
      · cases h1; exact hn R w _ (After.nothing hm) (ev y)
      · cases h1; exact hn R w _ (After.nothing hm) (ev x)
    · cases h
  case alloc T =>
    split at h
    · rename_i ti hT
      obtain ⟨e, h1, rfl⟩ := eff_some h
      have ht := hte T ti hT
      obtain ⟨i, z, z1, z2, z3, z4, z5, z6, z7⟩ := ht.zero_rel (R := R)
      obtain ⟨ad, w', R', r1, r2, r3⟩ := newVar_sound (P := P) hm (v := z) (vs := z.cells.toList) (by simp) z5 z7 (by have := ht.small; simp [z6, maxLen']; omega) h1
      refine wp_makes rfl ⟨_, w', R', ?_, r2, r3⟩ hn
      simp only [Instr.alloc, Sem.run_bind, zeroValue, typeInfo, run_program, Result.andThen_ok, z1, z4, Sem.run_pure, r1]
    · cases h
  case box T x =>
    split at h
    · rename_i l hl
      obtain ⟨e, h1, rfl⟩ := eff_some h
      obtain ⟨vs, v1, v2, v3⟩ := rel_cells (ev x) hl
      have hlen := SV.relL_length v2
      have hsz : l.length ≤ 16777216 := by
        unfold Sx.newVar at h1
        split at h1
        · cases h1
        · rename_i ti hT
          split at h1
          · cases h1
          · rename_i hh
            have := (hte T ti hT).small
            have hh : l.length = ti.size := by simpa using hh
            omega
      obtain ⟨ad, w', R', r1, r2, r3⟩ := newVar_sound (P := P) hm (v := a.eval x) (vs := vs) v1 v2 v3 (by unfold maxLen'; omega) h1
      refine wp_makes rfl ⟨_, w', R', ?_, r2, r3⟩ hn
      simp only [Instr.box, Sem.run_bind, Sem.run_pure, Result.andThen_ok, r1]
    · cases h
  case build T ps =>
    obtain ⟨z, h1, rfl⟩ := pureV_some h
    exact wp_gives hm rfl (build_sound hte h1 (parts_rel hst ps)) hn
  case buildSlice T len ps =>
    obtain ⟨e, h1, rfl⟩ := eff_some h
    exact wp_makes rfl (buildSlice_sound hm hte h1 (parts_rel hst ps)) hn
  case load T x =>
    split at h
    · rename_i ti hT
      obtain ⟨z, h1, rfl⟩ := pureV_some h
      obtain ⟨cs, h2, rfl⟩ := OT.run_map h1
      obtain ⟨ad, hv, hg⟩ := loadVar_sound (P := P) hm hte hT (ev x) h2
      refine wp_gives hm rfl ?_ hn
      obtain ⟨v, g1, g2⟩ := hg
      refine ⟨v, ?_, g2⟩
      simp only [Instr.loadAt, hv, Instr.sureAddr, Sem.run_bind, Sem.run_pure, Result.andThen_ok, g1]
    · cases h
  case store T x y =>
    split at h
    · rename_i ti hT
      split at h
      · rename_i l hl
        split at h
        · rename_i hsz
          obtain ⟨u, h1, rfl⟩ := OT.run_map h
          obtain ⟨ad, w', R', hv, g1, g2⟩ := storeVar_sound (P := P) hm hte hT (ev x) (ev y) hl hsz h1
          have hrun : (execOp a.eval (Oper.mk dst (.store T x y) type pos after guard)).run P w = .ok .skip w' := by
            simp only [execOp, Instr.storeAt, hv, Instr.sureAddr, Sem.run_bind, Sem.run_pure, Result.andThen_ok, g1]
          unfold Oper.wp
          rw [hrun]
          exact hn R' w' _ g2 (by simp only [SV.rel])
        · cases h
      · cases h
    · cases h
  case nilCheck x =>
    have hx := ev x
    have hrun : ∀ ad, a.eval x = .pointer (some ad) → (execOp a.eval (Oper.mk dst (.nilCheck x) type pos after guard)).run P w = .ok (.value (a.eval x)) w := fun ad hv => by
      simp [execOp, hv]
    split at h
    · rename_i c e i off hs
      obtain ⟨z, h1, rfl⟩ := pureV_some h
      cases h1
      rw [hs] at hx
      have hx' := hx
      simp only [SV.rel] at hx
      obtain ⟨⟨ad, hv⟩, _⟩ := hx
      unfold Oper.wp
      rw [hrun ad hv]
      exact hn R w _ (After.nothing hm) hx'
    · rename_i t xs i off hs
      obtain ⟨z, h1, rfl⟩ := pureV_some h
      cases h1
      rw [hs] at hx
      have hx' := hx
      simp only [SV.rel] at hx
      obtain ⟨_, b, o, arr, E, fz, hv, _⟩ := hx
      unfold Oper.wp
      rw [hrun _ hv]
      exact hn R w _ (After.nothing hm) hx'
    · cases h
  case binOp op T x y T2 =>
    split at h
    · rename_i hy
      obtain ⟨z, h1, rfl⟩ := pureV_some h
      have hy' : ∃ n c, a.eval y = .slice none n c := by
        unfold isNilSlice at hy
        split at hy
        · exact ⟨_, _, rfl⟩
        · cases hy
      obtain ⟨n, c, hyv⟩ := hy'
      obtain ⟨⟨q, l, k, hxv⟩, u, hu1, hu2⟩ := nilTest_sound (P := P) (w := w) hte h1 (ev x) ⟨n, c, hyv⟩
      exact wp_gives hm rfl ⟨u, run_guarded (X := x) (Y := y) (by rw [hxv, hyv]; simp [eqGuard]) hu1, hu2⟩ hn
    · obtain ⟨z, h1, rfl⟩ := pureV_some h
      exact wp_gives hm rfl (binOpS_sound hte h1 (ev x) (ev y)) hn
  case sliceToArrayPointer T x =>
    obtain ⟨z, h1, rfl⟩ := pureV_some h
    exact wp_gives hm rfl (arrayPtr_sound hte h1 (ev x)) hn
  case unOp op T x =>
    obtain ⟨z, h1, rfl⟩ := pureV_some h
    exact wp_gives hm rfl (unOp_sound h1 (ev x)) hn
  case convert src dst' x =>
    split at h
    · rename_i s hs
      obtain ⟨z, h1, rfl⟩ := pureV_some h
      cases h1
      obtain ⟨u, w', R', r1, r2, r3⟩ := bytesOf_sound (P := P) hm hte hs (ev x)
      exact wp_makes rfl ⟨u, w', R', r1, r2, r3⟩ hn
    · split at h
      · rename_i hs
        obtain ⟨z, h1, rfl⟩ := eff_some h
        cases h1
        exact wp_makes rfl (bytesConst_sound (P := P) hm hte hs (ev x)) hn
      · obtain ⟨z, h1, rfl⟩ := pureV_some h
        exact wp_gives hm rfl (convert_sound hte h1 (ev x)) hn
  case makeInterface T x =>
    split at h
    · rename_i ti hT
      obtain ⟨ds, hu, hd⟩ := (hte T ti hT).desc
      have hmk : ∀ y : Value, (Instr.makeInterface T y).run P w = .ok (.iface T y) w ∨ (match ti.desc with | .iface => True | .other => True | _ => False) := fun y => by
        unfold Instr.makeInterface
        simp only [Sem.run_bind, run_underlying hu, Result.andThen_ok]
        cases hk : ti.desc <;> rw [hk] at hd <;> simp only at hd <;> first
          | (exact .inr trivial; done)
          | (left; obtain ⟨_, rfl, _⟩ := hd; rfl)
          | (left; obtain ⟨⟨_, rfl⟩, _⟩ := hd; rfl)
          | (left; subst hd; rfl)
      have hq : ¬ (match ti.desc with | .iface => True | .other => True | _ => False) := fun hq => by
        cases hk : ti.desc <;> rw [hk] at hq h <;> first | exact hq | (simp only at h; cases h)
      have h2 : (pureV (.ok (.iface T (st.eval x)))).run = some out := by
        cases hk : ti.desc <;> rw [hk] at h hq <;> first | exact h | (exact absurd trivial hq)
      obtain ⟨z, h1, rfl⟩ := pureV_some h2
      cases h1
      refine wp_gives hm rfl ⟨.iface T (a.eval x), (hmk _).resolve_right hq, ?_⟩ hn
      simp only [SV.rel]
      exact ⟨_, rfl, ev x⟩
    · cases h
  case makeFunc f first caps =>
    obtain ⟨z, h1, rfl⟩ := pureV_some h
    cases h1
    refine wp_gives hm rfl ⟨_, rfl, ?_⟩ hn
    simp only [SV.rel]
    exact ⟨first.toList.map a.eval, caps.toList.map a.eval, by rw [map_arr, map_arr], rel_map hst _, rel_map hst _⟩
  case makeSlice T l c =>
    split at h
    · rename_i l' c' hl hc
      obtain ⟨e, h1, rfl⟩ := eff_some h
      have e1 := ev l
      have e2 := ev c
      rw [hl] at e1
      rw [hc] at e2
      simp only [SV.rel] at e1 e2
      have := makeSlice_sound (P := P) hm hte h1
      rw [← e1.1, ← e2.1] at this
      exact wp_makes rfl this hn
    · cases h
  case slice T x lo hi mx =>
    obtain ⟨z, h1, rfl⟩ := pureV_some h
    have some_rel : ∀ (q : Option Operand) (y : SV), q.map st.eval = some y → ∃ v, q.map a.eval = some v ∧ SV.rel R y v := fun q y hy => by
      cases q with
      | none => cases hy
      | some u => cases hy; exact ⟨_, rfl, ev u⟩
    have none_rel : ∀ (q : Option Operand), q.map st.eval = none → q.map a.eval = none := fun q hq => by
      cases q with
      | none => rfl
      | some u => cases hq
    exact wp_gives hm rfl (sliceOp_sound hm hte h1 (ev x) (some_rel lo) (none_rel lo) (some_rel hi) (none_rel hi) (some_rel mx) (none_rel mx)) hn
  case fieldAddr S x f =>
    split at h
    · rename_i fs _ _ hS
      split at h
      · rename_i o fi hf
        split at h
        · cases h
        · rename_i h0
          obtain ⟨z, h1, rfl⟩ := pureV_some h
          exact wp_gives hm rfl (fieldAddr_sound hte hS rfl hf h0 h1 (ev x)) hn
      · cases h
    · cases h
  case field S x f =>
    split at h
    · rename_i fs _ _ l hS hl
      split at h
      · rename_i o fi hf
        split at h
        · rename_i hle
          obtain ⟨z, h1, rfl⟩ := pureV_some h
          cases h1
          have hx := ev x
          rw [hl] at hx
          exact wp_gives hm rfl (field_sound hte hS rfl hf hle hx) hn
        · cases h
      · cases h
    · cases h
  case indexAddr T x k =>
    split at h
    · rename_i i hk
      obtain ⟨z, h1, rfl⟩ := pureV_some h
      obtain ⟨kd, e1⟩ := idxOf_rel hk (ev k)
      have := indexAddr_sound (P := P) (w := w) (kd := kd) hte h1 (ev x)
      rw [← e1] at this
      exact wp_gives hm rfl this hn
    · cases h
  case index T x k =>
    split at h
    · rename_i i hk
      obtain ⟨z, h1, rfl⟩ := pureV_some h
      obtain ⟨kd, e1⟩ := idxOf_rel hk (ev k)
      have := indexVal_sound (P := P) (w := w) (kd := kd) hte h1 (ev x)
      rw [← e1] at this
      exact wp_gives hm rfl this hn
    · cases h
  case extract t i =>
    split at h
    · rename_i l hl
      split at h
      · rename_i v hv
        obtain ⟨z, h1, rfl⟩ := pureV_some h
        cases h1
        have hx := ev t
        rw [hl] at hx
        simp only [SV.rel] at hx
        obtain ⟨vs, he, hr⟩ := hx
        have hlen := SV.relL_length hr
        obtain ⟨hi, hvi⟩ := List.getElem?_eq_some_iff.1 hv
        refine wp_gives hm rfl ⟨vs[i]'(by omega), ?_, ?_⟩ hn
        · simp [Instr.extract, he, show i < vs.length by omega]
        · rw [← hvi]; exact SV.relL_get hr i hi (by omega)
      · cases h
    · cases h
  case call c =>
    obtain ⟨callee, args, argTypes⟩ := c
    simp only at h
    have hargs := rel_map hst args.toList
    have go : ∀ (f' : FuncId) (s : Summ) (us : List SV) (l : List Value), Φ f' = some s → SV.relL R us l → (s.f d us R.hp).run = some out →
        (∀ r, (execOp a.eval (Oper.mk dst (.call { callee := callee, args, argTypes }) type pos after guard)).run P w = r ↔ (callFunc f' l.toArray).run P w = r) → (Oper.mk dst (.call { callee := callee, args, argTypes }) type pos after guard).wp P a w next Q := by
      intro f' s us l hs hr hout hexec
      have hc := (hΦ _ _ hs).calls R w d us l out hm hr hout
      rcases hc with ⟨fn, f1, f2, f3, hc⟩ | ⟨v, w', hv, hp⟩
      · have hrun : (callFunc f' l.toArray).run P w = .ok (.enter f' l.toArray) w := by
          have f2' : ¬ fn.name = "runtime.NumGoroutine" := by simpa using f2
          have f3' : ¬ fn.body = none := fun e => by rw [e] at f3; simp at f3
          simp [callFunc, f1, f2', f3']
        unfold Oper.wp
        rw [(hexec _).2 hrun, Oper.upon_enter]
        refine hc.mono fun en w' hp => ?_
        cases out with
        | ret e =>
          obtain ⟨v, R', rfl, p1, p2⟩ := hp
          exact hn R' w' v p1 p2
        | pan sv u =>
          obtain ⟨v, R', rfl, p1, p2⟩ := hp
          exact hn R' w' v p1 p2
      · unfold Oper.wp
        rw [(hexec _).2 hv]
        cases out with
        | ret e =>
          obtain ⟨v', R', he, p1, p2⟩ := hp
          cases he
          exact hn R' w' v p1 p2
        | pan sv u =>
          obtain ⟨v', R', he, p1, p2⟩ := hp
          cases he
    split at h
    · rename_i f
      unfold callFn at h
      split at h
      · rename_i f' first caps hf
        split at h
        · rename_i s hs
          have hx := ev f
          rw [hf] at hx
          simp only [SV.rel] at hx
          obtain ⟨l1, l2, he, r1, r2⟩ := hx
          refine go f' s _ (l1 ++ args.toList.map a.eval ++ l2) hs (SV.relL_append (SV.relL_append r1 hargs) r2) h fun r => ?_
          have : (execOp a.eval (Oper.mk dst (.call { callee := .value f, args, argTypes }) type pos after guard)).run P w = (callFunc f' (l1 ++ args.toList.map a.eval ++ l2).toArray).run P w := by
            simp [execOp, resolve, he, Deferred.ofValue, invoke, map_arr]
          rw [this]
        · cases h
      · cases h
    · rename_i recv name
      unfold callMeth at h
      split at h
      · rename_i t v hv
        split at h
        · rename_i f' hf
          split at h
          · rename_i s hs
            have hx := ev recv
            rw [hv] at hx
            simp only [SV.rel] at hx
            obtain ⟨y, he, hy⟩ := hx
            refine go f' s (v :: args.toList.map st.eval) (y :: args.toList.map a.eval) hs (by simp only [SV.relL]; exact ⟨_, _, rfl, hy, hargs⟩) h fun r => ?_
            have hmeth := methOf_run (P := P) (w := w) hte hf y _ rfl
            have : (execOp a.eval (Oper.mk dst (.call { callee := .invoke recv name, args, argTypes }) type pos after guard)).run P w = (callFunc f' (y :: args.toList.map a.eval).toArray).run P w := by
              have e1 : (Array.map a.eval args) = (args.toList.map a.eval).toArray := map_arr _ _
              have e2 : (#[Value.iface t y] ++ (args.toList.map a.eval).toArray)[0]? = some (.iface t y) := by simp
              have e3 : (#[Value.iface t y] ++ (args.toList.map a.eval).toArray).extract 1 (#[Value.iface t y] ++ (args.toList.map a.eval).toArray).size = (args.toList.map a.eval).toArray := by
                apply Array.ext'
                simp only [Array.toList_extract, Array.toList_append, List.extract_eq_take_drop]
                simp
                exact List.take_of_length_le (by simp)
              have e4 : #[y] ++ (args.toList.map a.eval).toArray = (y :: args.toList.map a.eval).toArray := by simp
              simp only [execOp, resolve, he, e1, Sem.run_bind, Sem.run_pure, Result.andThen_ok, invoke, e2, e3, callMethod, run_program, hmeth, e4]
            rw [this]
          · cases h
        · cases h
      · cases h
    · split at h
      · rename_i x T Ts hax hat
        obtain ⟨z, h1, rfl⟩ := pureV_some h
        have ha : args = #[x] := by apply Array.ext'; simpa using hax
        have hat' : argTypes = (T :: Ts).toArray := by apply Array.ext'; simpa using hat
        subst ha
        have := lenOp_sound (P := P) (Tr := type) (Ts := Ts) hm hte h1 (ev x)
        rw [← hat'] at this
        refine wp_gives hm ?_ this hn
        simp [execOp, resolve, invoke, builtin]
      · cases h
    · split at h
      · rename_i s x T T' hax hat
        split at h
        · rename_i hsl
          obtain ⟨e, h1, rfl⟩ := eff_some h
          have ha : args = #[s, x] := by apply Array.ext'; simpa using hax
          have hat' : argTypes = #[T, T'] := by apply Array.ext'; simpa using hat
          subst ha
          subst hat'
          have := appendOp_sound (P := P) (Tr := type) hm hte hsl h1 (ev s) (ev x)
          refine wp_makes ?_ this hn
          simp [execOp, resolve, invoke, builtin]
        · cases h
      · cases h
    · split at h
      · rename_i s x T T' hax hat
        obtain ⟨e, h1, rfl⟩ := eff_some h
        have ha : args = #[s, x] := by apply Array.ext'; simpa using hax
        have hat' : argTypes = #[T, T'] := by apply Array.ext'; simpa using hat
        subst ha
        subst hat'
        have := copyOp_sound (P := P) (Tr := type) (T' := T') hm hte h1 (ev s) (ev x)
        refine wp_makes ?_ this hn
        simp [execOp, resolve, invoke, builtin]
      · cases h
    · split at h
      · rename_i x y hax
        split at h
        · rename_i p q hp hq
          obtain ⟨z, h1, rfl⟩ := pureV_some h
          cases h1
          have ha : args = #[x, y] := by apply Array.ext'; simpa using hax
          subst ha
          have e1 := ev x
          have e2 := ev y
          rw [hp] at e1
          rw [hq] at e2
          simp only [SV.rel] at e1 e2
          refine wp_gives (s := Builtin.max_ argTypes type #[a.eval x, a.eval y]) hm ?_ ?_ hn
          · simp [execOp, resolve, invoke, builtin]
          · refine gives_int ?_ ?_
            · simp [Builtin.max_, e1.1, e2.1, Builtin.max2]
            · split
              · exact e2.2
              · exact e1.2
        · cases h
      · cases h
    · cases h
end
end Sx
end Go.Proofs.Ytkedomfjjahjnaa

namespace Go.Proofs.Ytkedomfjjahjnaa
namespace Sx
open Go
section
variable {P : Program} {te : TE} {Φ : Env}
structure Covers (R₀ : Ctx) (K : SE → St → Prop) (Q : Exit → Act → World → Prop) : Prop where
  normal : ∀ R st a w, R₀.Ext R → StOk R st a w → K .normal st → Q .normal a w
  ret : ∀ R st a w, R₀.Ext R → StOk R st a w → K .ret st → Q .ret a w
  exit : ∀ R st a w id, R₀.Ext R → StOk R st a w → K (.exit id) st → Q (.exit id) a w
  pan : ∀ R st a w sv v, R₀.Ext R → StOk R st a w → SV.rel R sv v → K (.pan sv) st → Q (.panic [{ v, recovered := false }]) a w
theorem StOk.put {R R' : Ctx} {st : St} {a : Act} {w w' : World} {e : Eff} {v : Value} (h : StOk R st a w) (ha : After R R' w' e.upd) (hv : SV.rel R' e.v v) (dst : Option Tmp) : StOk R' (st.put dst e) (a.put dst v) w' := by
  refine ⟨?_, ha.mem, ?_, ?_⟩
  · rw [ha.hp, h.hp]; rfl
  · have := SV.relL_ext ha.ext _ _ h.tm
    cases dst with
    | none => exact this
    | some d =>
      simp only [St.put, putTm, Act.put, Array.toList_setIfInBounds]
      exact SV.relL_set this d hv
  · cases dst <;> exact h.defers
theorem StOk.undef {R : Ctx} {st : St} {a : Act} {w : World} (h : StOk R st a w) (dst : Option Tmp) : StOk R (st.put dst ⟨.undef, []⟩) (a.put dst Go.undef) w :=
  h.put (After.nothing h.mem) (by simp only [SV.rel]) dst
theorem StOk.turned {R R' : Ctx} {st : St} {a : Act} {w w' : World} {u : List (Nat × Ch)} (h : StOk R st a w) (ha : After R R' w' u) : StOk R' ⟨st.tm, putHp st.hp u⟩ a w' :=
  ⟨by rw [ha.hp, h.hp], ha.mem, SV.relL_ext ha.ext _ _ h.tm, h.defers⟩
theorem guarded_wanted {R : Ctx} {st : St} {a : Act} {w : World} (h : StOk R st a w) {ops : Array Oper} {o : Oper} {b : Bool} (hg : guarded ops.toList st.tm o = some b) : Region.wanted o (yielded ops a.tmps) = b := by
  unfold guarded at hg
  unfold Region.wanted
  split at hg
  · rename_i hn
    rw [hn]
    exact Option.some.inj hg
  · rename_i j want hj
    rw [hj]
    simp only
    split at hg
    · rename_i d hd
      have hd' : (ops[j]?).bind (·.dst) = some d := by simpa using hd
      have hl := SV.relL_length h.tm
      simp only [Array.length_toList] at hl
      have get : st.tm.getD d .junk ≠ .junk → ∃ hlt : d < a.tmps.size, SV.rel R (st.tm.getD d .junk) a.tmps[d] := fun hne => by
        by_cases ht : d < st.tm.length
        · have ht' : d < a.tmps.size := Nat.lt_of_lt_of_eq ht hl.symm
          refine ⟨ht', ?_⟩
          have := SV.relL_get h.tm d ht (by simpa using ht')
          simpa [List.getD_eq_getElem?_getD, List.getElem?_eq_getElem ht] using this
        · exact absurd (by simp [List.getD_eq_getElem?_getD, List.getElem?_eq_none (Nat.le_of_not_lt ht)]) hne
      split at hg
      · rename_i q hq
        obtain ⟨hlt, hr⟩ := get (by rw [hq]; exact fun e => by cases e)
        rw [hq] at hr
        simp only [SV.rel] at hr
        have hy : yielded ops a.tmps j = some q := by
          unfold yielded
          rw [hd']
          simp [hlt, hr]
        rw [hy, ← Option.some.inj hg]
        rfl
      · rename_i hq
        obtain ⟨hlt, hr⟩ := get (by rw [hq]; exact fun e => by cases e)
        rw [hq] at hr
        simp only [SV.rel] at hr
        have hy : yielded ops a.tmps j = none := by
          unfold yielded
          rw [hd']
          simp [hlt, hr, Go.undef]
        rw [hy, ← Option.some.inj hg]
        rfl
      · cases hg
    · cases hg
theorem wregion_sound (hte : TeOk P te) (hΦ : EnvOk P Φ) {R₀ : Ctx} {ops : Array Oper} {K : SE → St → Prop} {Q : Exit → Act → World → Prop} (hK : Covers R₀ K Q) :
    ∀ (l : List Oper) (R : Ctx) (st : St) (a : Act) (w : World), R₀.Ext R → StOk R st a w → wregion te Φ ops.toList K l st → wpList P ops Q l a w
  | [], R, st, a, w, hx, hst, h => hK.normal R st a w hx hst h
  | o :: r, R, st, a, w, hx, hst, h => by
    simp only [wregion] at h
    split at h
    · exact h.elim
    · rename_i b hb
      have hw := guarded_wanted hst hb
      simp only [wpList, hw]
      cases b
      · simp only [Bool.false_eq_true, if_false]
        exact wregion_sound hte hΦ hK r R _ _ w hx (hst.undef o.dst) h
      · simp only [if_true]
        refine .inl ?_
        obtain ⟨out, h1, h2⟩ := OT.wp_run h
        refine core_sound hte hΦ hst h1 ?_
        cases out with
        | ret e => exact fun R' w' v ha hv => wregion_sound hte hΦ hK r R' _ _ w' (hx.trans ha.ext) (hst.put ha hv o.dst) h2
        | pan sv u => exact fun R' w' v ha hv => hK.pan R' _ a w' sv v (hx.trans ha.ext) (hst.turned ha) hv h2
def BlockOk (P : Program) (R₀ : Ctx) (b : Code) (l : St → (SE → St → Prop) → Prop) : Prop :=
  ∀ (R : Ctx) (st : St) (a : Act) (w : World) (K : SE → St → Prop) (Q : Exit → Act → World → Prop), R₀.Ext R → StOk R st a w → l st K → Covers R₀ K Q → b.wp P Q a w
def blocks : Code → List (Nat × Code)
  | .seq a b => blocks a ++ blocks b
  | .cond _ a b => blocks a ++ blocks b
  | .block id c => (id, c) :: blocks c
  | .loop c => blocks c
  | .scope c => blocks c
  | _ => []
def LamOk (P : Program) (R₀ : Ctx) (Λ : Lam) (c : Code) : Prop := ∀ p ∈ blocks c, ∀ l, Λ p.1 = some l → BlockOk P R₀ (.block p.1 p.2) l
def AnyOk (P : Program) (te : TE) (Φ : Env) : Prop := ∀ (R₀ : Ctx) (id : Nat) (ops : Array Oper) (K : SE → St → Prop) (Q : Exit → Act → World → Prop) (R : Ctx) (st : St) (a : Act) (w : World), Covers R₀ K Q → R₀.Ext R → StOk R st a w →
  regionOk Φ ops (bitsOf ops) = true → wregionAny te Φ ops.toList (bitsOf ops) (hidOf te Φ ops (bitsOf ops) st) K st 0 ops.toList [] → (Code.region id ops true).wp P Q a w
theorem wps_succ {Λ : Lam} {n : Nat} {c : Code} {st : St} {K : SE → St → Prop} : wps te Φ Λ (n + 1) c st K = (match c with
      | .skip => K .normal st
      | .region _ ops draw => cond draw (cond (regionOk Φ ops (bitsOf ops)) (wregionAny te Φ ops.toList (bitsOf ops) (hidOf te Φ ops (bitsOf ops) st) K st 0 ops.toList []) False) (wregion te Φ ops.toList K ops.toList st)
      | .seq a b => wps te Φ Λ n a st fun e st' => match e with
        | .normal => wps te Φ Λ n b st' K
        | e => K e st'
      | .cond c a b => match st.eval c with
        | .bool t => cond t (wps te Φ Λ n a st K) (wps te Φ Λ n b st K)
        | .anyb => (wps te Φ Λ n a st K) ∧ (wps te Φ Λ n b st K)
        | _ => False
      | .block id body => match Λ id with
        | some l => l st K
        | none => wps te Φ Λ n body st fun e st' => match e with
          | .exit j => cond (j == id) (K .normal st') (K (.exit j) st')
          | e => K e st'
      | .loop body => wps te Φ Λ n body st fun e st' => match e with
          | .normal => wps te Φ Λ n (.loop body) st' K
          | e => K e st'
      | .exit id => K (.exit id) st
      | .ret => K .ret st
      | _ => False) := by
  cases c <;> try rfl
  case region id ops draw =>
    simp only
    rw [← fregion_eq, ← fany_eq]
    rfl
  case block id body =>
    simp only
    have : ∀ (e : SE) (st' : St), (match e with
        | .exit j => ifB (Nat.beq j id) (K .normal st') (K (.exit j) st')
        | e => K e st') = (match e with
        | .exit j => cond (j == id) (K .normal st') (K (.exit j) st')
        | e => K e st') := fun e st' => by
      cases e <;> try rfl
      rename_i j
      have hb : Nat.beq j id = (j == id) := by
        rw [Bool.eq_iff_iff, beq_iff_eq]
        exact ⟨Nat.eq_of_beq_eq_true, fun e => by rw [e]; exact Nat.beq_refl id⟩
      simp only [hb, ifB_eq]
    show (match Λ id with
      | some l => l st K
      | none => wps te Φ Λ n body st fun e st' => match e with
        | .exit j => ifB (Nat.beq j id) (K .normal st') (K (.exit j) st')
        | e => K e st') = _
    simp only [this]
def LoopIn (P : Program) (c : Code) (Q : Exit → Act → World → Prop) (a : Act) (w : World) : Prop :=
  ∀ (b : Frame) (k : List Item) (cs : List Frame), ∃ e a' w', Q e a' w' ∧ Arrives P (lone (b.at a (.code c :: .inLoop c :: k)) cs w) b k cs e a' w'
theorem wp_of_loopIn {c : Code} {Q : Exit → Act → World → Prop} {a : Act} {w : World} (h : LoopIn P c Q a w) : (Code.loop c).wp P Q a w :=
  fun b k cs => let ⟨e, a', w', hq, harr⟩ := h b k cs; ⟨e, a', w', hq, .of_steps (.one step_loop) harr⟩
theorem loopIn_step {c : Code} {Q : Exit → Act → World → Prop} {a : Act} {w : World} (h : c.wp P (fun e a' w' => match e with | .normal => LoopIn P c Q a' w' | e => Q e a' w') a w) : LoopIn P c Q a w := by
  intro b k cs
  obtain ⟨e, a₁, w₁, hq, harr⟩ := h b (.inLoop c :: k) cs
  cases e with
  | normal =>
    obtain ⟨e₂, a₂, w₂, hq₂, harr₂⟩ := hq b k cs
    exact ⟨e₂, a₂, w₂, hq₂, .of_steps (Steps.trans harr (.one step_inLoop)) harr₂⟩
  | exit id => exact ⟨_, a₁, w₁, hq, .pass (x := .inLoop c) rfl (fun _ _ => .inl (by simp)) harr⟩
  | goto l => exact ⟨_, a₁, w₁, hq, .pass (x := .inLoop c) rfl (fun _ _ => .inl (by simp)) harr⟩
  | ret => exact ⟨_, a₁, w₁, hq, .pass (x := .inLoop c) rfl (fun _ _ => .inl (by simp)) harr⟩
  | panic ch => exact ⟨_, a₁, w₁, hq, .pass (x := .inLoop c) rfl (fun _ _ => .inl (by simp)) harr⟩
  | outgrown => exact ⟨_, a₁, w₁, hq, .pass (x := .inLoop c) rfl (fun _ _ => .inl (by simp)) harr⟩
def Shown (P : Program) (c : Code) (Q : Exit → Act → World → Prop) (a : Act) (w : World) : Prop :=
  match c with
  | .loop body => LoopIn P body Q a w
  | c => c.wp P Q a w
theorem Shown.wp {c : Code} {Q : Exit → Act → World → Prop} {a : Act} {w : World} (h : Shown P c Q a w) : c.wp P Q a w := by
  cases c <;> first | exact h | exact wp_of_loopIn h
theorem wps_shown (hte : TeOk P te) (hΦ : EnvOk P Φ) (hany : AnyOk P te Φ) {R₀ : Ctx} {Λ : Lam} : ∀ (n : Nat) (c : Code) (R : Ctx) (st : St) (a : Act) (w : World) (K : SE → St → Prop) (Q : Exit → Act → World → Prop), LamOk P R₀ Λ c →
    R₀.Ext R → StOk R st a w → wps te Φ Λ n c st K → Covers R₀ K Q → Shown P c Q a w
  | 0, c, R, st, a, w, K, Q, _, _, _, h, _ => h.elim
  | n + 1, c, R, st, a, w, K, Q, hΛ, hx, hst, h, hK => by
    rw [wps_succ] at h
    cases c <;> simp only at h <;> try (exact h.elim)
    case skip => exact wp_skip (hK.normal R st a w hx hst h)
    case region id ops draw =>
      cases draw
      · exact wp_region_list (wregion_sound hte hΦ hK _ R st a w hx hst h)
      · cases hr : regionOk Φ ops (bitsOf ops)
        · rw [hr] at h; exact h.elim
        · rw [hr] at h
          exact hany R₀ id ops K Q R st a w hK hx hst hr h
    case seq x y =>
      refine wp_seq (wps_shown hte hΦ hany n x R st a w _ _ (fun p hp => hΛ p (by simp [blocks, hp])) hx hst h ⟨?_, ?_, ?_, ?_⟩).wp
      · exact fun R' st' a' w' hx' hst' hk => (wps_shown hte hΦ hany n y R' st' a' w' K Q (fun p hp => hΛ p (by simp [blocks, hp])) hx' hst' hk hK).wp
      · exact fun R' st' a' w' hx' hst' hk => hK.ret R' st' a' w' hx' hst' hk
      · exact fun R' st' a' w' id hx' hst' hk => hK.exit R' st' a' w' id hx' hst' hk
      · exact fun R' st' a' w' sv v hx' hst' hv hk => hK.pan R' st' a' w' sv v hx' hst' hv hk
    case cond c x y =>
      split at h
      · rename_i t ht
        have hc := eval_rel hst c
        rw [ht] at hc
        simp only [SV.rel] at hc
        refine wp_cond hc ?_
        cases t
        · exact (wps_shown hte hΦ hany n y R st a w K Q (fun p hp => hΛ p (by simp [blocks, hp])) hx hst h hK).wp
        · exact (wps_shown hte hΦ hany n x R st a w K Q (fun p hp => hΛ p (by simp [blocks, hp])) hx hst h hK).wp
      · rename_i ht
        have hc := eval_rel hst c
        rw [ht] at hc
        simp only [SV.rel] at hc
        obtain ⟨t, hc⟩ := hc
        refine wp_cond hc ?_
        cases t
        · exact (wps_shown hte hΦ hany n y R st a w K Q (fun p hp => hΛ p (by simp [blocks, hp])) hx hst h.2 hK).wp
        · exact (wps_shown hte hΦ hany n x R st a w K Q (fun p hp => hΛ p (by simp [blocks, hp])) hx hst h.1 hK).wp
      · exact h.elim
    case block id body =>
      split at h
      · rename_i l hl
        exact hΛ (id, body) (by simp [blocks]) l hl R st a w K Q hx hst h hK
      · refine wp_block (wps_shown hte hΦ hany n body R st a w _ _ (fun p hp => hΛ p (by simp [blocks, hp])) hx hst h ⟨?_, ?_, ?_, ?_⟩).wp
        · exact fun R' st' a' w' hx' hst' hk => hK.normal R' st' a' w' hx' hst' hk
        · exact fun R' st' a' w' hx' hst' hk => hK.ret R' st' a' w' hx' hst' hk
        · intro R' st' a' w' j hx' hst' hk
          simp only [Exit.inBlock]
          by_cases e : j = id
          · subst e
            simp only [BEq.rfl, cond_true] at hk
            simp only [if_true]
            exact hK.normal R' st' a' w' hx' hst' hk
          · have : (j == id) = false := by simpa using e
            simp only [this, cond_false] at hk
            simp only [e, if_false]
            exact hK.exit R' st' a' w' j hx' hst' hk
        · exact fun R' st' a' w' sv v hx' hst' hv hk => hK.pan R' st' a' w' sv v hx' hst' hv hk
    case loop body =>
      refine loopIn_step (wps_shown hte hΦ hany n body R st a w _ _ (fun p hp => hΛ p (by simp [blocks, hp])) hx hst h ⟨?_, ?_, ?_, ?_⟩).wp
      · exact fun R' st' a' w' hx' hst' hk => wps_shown hte hΦ hany n (.loop body) R' st' a' w' K Q hΛ hx' hst' hk hK
      · exact fun R' st' a' w' hx' hst' hk => hK.ret R' st' a' w' hx' hst' hk
      · exact fun R' st' a' w' id hx' hst' hk => hK.exit R' st' a' w' id hx' hst' hk
      · exact fun R' st' a' w' sv v hx' hst' hv hk => hK.pan R' st' a' w' sv v hx' hst' hv hk
    case exit id => exact wp_exit (hK.exit R st a w id hx hst h)
    case ret => exact wp_ret (hK.ret R st a w hx hst h)
theorem wps_sound (hte : TeOk P te) (hΦ : EnvOk P Φ) (hany : AnyOk P te Φ) {R₀ : Ctx} {Λ : Lam} {n : Nat} {c : Code} {R : Ctx} {st : St} {a : Act} {w : World} {K : SE → St → Prop} {Q : Exit → Act → World → Prop} (hΛ : LamOk P R₀ Λ c)
    (hx : R₀.Ext R) (hst : StOk R st a w) (h : wps te Φ Λ n c st K) (hK : Covers R₀ K Q) : c.wp P Q a w := (wps_shown hte hΦ hany n c R st a w K Q hΛ hx hst h hK).wp
end
end Sx
end Go.Proofs.Ytkedomfjjahjnaa

namespace Go.Proofs.Ytkedomfjjahjnaa
namespace Sx
open Go
section
variable {P : Program} {te : TE} {Φ : Env}
theorem get_rel {R : Ctx} {st : St} {a : Act} {w : World} (h : StOk R st a w) (t : Nat) : SV.rel R (st.tm.getD t .junk) (a.tmps.getD t Go.undef) := eval_rel h (.tmp t)
def resRun (tmps : Array Value) : ResultVar → Sem Value
  | .tmp t => pure (tmps.getD t Go.undef)
  | .cell b t => do loadVar t (← asAddr (tmps.getD b Go.undef))
theorem asAddr_some (ad : Addr) : asAddr (.pointer (some ad)) = pure ad := rfl
theorem resultsGo_sound (hte : TeOk P te) {R : Ctx} {st : St} {a : Act} {w : World} (h : StOk R st a w) : ∀ (rs : List ResultVar) (K : List SV → Prop), resultsGo te st rs K →
    ∃ l vs, K l ∧ SV.relL R l vs ∧ (rs.mapM (resRun a.tmps)).run P w = .ok vs w
  | [], K, hk => ⟨[], [], hk, relL_nil, rfl⟩
  | .tmp t :: r, K, hk => by
    obtain ⟨l, vs, h1, h2, h3⟩ := resultsGo_sound hte h r _ hk
    refine ⟨_, a.tmps.getD t Go.undef :: vs, h1, ?_, ?_⟩
    · simp only [SV.relL]; exact ⟨_, _, rfl, get_rel h t, h2⟩
    · simp only [List.mapM_cons, resRun, Sem.run_bind, Sem.run_pure, Result.andThen_ok, h3]
  | .cell b T :: r, K, hk => by
    simp only [resultsGo] at hk
    split at hk
    · rename_i ti hT
      obtain ⟨cs, h0, h1⟩ := OT.wp_run hk
      obtain ⟨l, vs, h1, h2, h3⟩ := resultsGo_sound hte h r _ h1
      rw [← h.hp] at h0
      obtain ⟨ad, hv, v, g1, g2⟩ := loadVar_sound (P := P) h.mem hte hT (get_rel h b) h0
      refine ⟨_, v :: vs, h1, ?_, ?_⟩
      · simp only [SV.relL]; exact ⟨_, _, rfl, g2, h2⟩
      · simp only [List.mapM_cons, resRun, Sem.run_bind, hv, asAddr_some, Sem.run_pure, Result.andThen_ok, g1, h3]
    · exact hk.elim
theorem resultOf_sound (hte : TeOk P te) {R : Ctx} {st : St} {a : Act} {w : World} (h : StOk R st a w) {fn : Func} {K : SV → Prop} (hk : resultOf te fn st K) :
    ∃ x v, K x ∧ SV.rel R x v ∧ (results fn a.tmps).run P w = .ok v w := by
  obtain ⟨l, vs, h1, h2, h3⟩ := resultsGo_sound hte h _ _ hk
  have hrun : (results fn a.tmps).run P w = .ok (if h : vs.toArray.size = 1 then vs.toArray[0] else .tuple vs.toArray) w := by
    have hfun : results fn a.tmps = (do
        let vs ← fn.results.mapM (resRun a.tmps)
        pure (if h : vs.size = 1 then vs[0] else .tuple vs)) := by
      unfold results
      congr 1
    rw [hfun, Sem.run_bind, Array.mapM_eq_mapM_toList, Sem.run_map, h3]
    rfl
  refine ⟨_, _, h1, ?_, hrun⟩
  have hl := SV.relL_length h2
  cases l with
  | nil =>
    simp only [SV.relL] at h2
    subst h2
    simp only [oneOf, SV.rel]
    exact ⟨[], by simp, relL_nil⟩
  | cons x l =>
    cases l with
    | nil =>
      obtain ⟨v, rfl, hv⟩ := relL_one h2
      simpa [oneOf] using hv
    | cons y l =>
      have hne : ¬ vs.toArray.size = 1 := by simp at hl ⊢; omega
      rw [dif_neg hne]
      simp only [oneOf, SV.rel]
      exact ⟨vs, rfl, h2⟩
def FnPost (R : Ctx) (K Kp : SV → Hp → Prop) (en : Ending) (w' : World) : Prop :=
  (∃ x v R', en = .returned v ∧ R.Ext R' ∧ HpOk R' w' ∧ SV.rel R' x v ∧ K x R'.hp) ∨ (∃ x v R', en = .panicked [{ v, recovered := false }] ∧ R.Ext R' ∧ HpOk R' w' ∧ SV.rel R' x v ∧ Kp x R'.hp)
theorem wpf_sound (hte : TeOk P te) (hΦ : EnvOk P Φ) (hany : AnyOk P te Φ) {f : FuncId} {fn : Func} {c : Code} (hf : P.funcs[f]? = some fn) (hb : fn.body = some c) {R : Ctx} {Λ : Lam} (hΛ : LamOk P R Λ c) {w : World} {n : Nat}
    {args : List SV} {vs : List Value} {K Kp : SV → Hp → Prop} (hm : HpOk R w) (ha : SV.relL R args vs) (h : wpf te Φ Λ n fn args R.hp K Kp) : Calls P f vs.toArray w (FnPost R K Kp) := by
  unfold wpf at h
  rw [hb] at h
  simp only at h
  refine calls_of_wp hf hb (wps_sound (R₀ := R) (R := R) hte hΦ hany hΛ (Ctx.Ext.refl R) ⟨rfl, hm, ?_, rfl⟩ h ⟨?_, ?_, ?_, ?_⟩)
  · have hl := SV.relL_length ha
    simp only [Array.toList_append, List.toList_toArray, Array.toList_replicate, List.size_toArray, hl]
    refine SV.relL_append ha (SV.relL_of (by simp) fun i h1 h2 => ?_)
    simp [SV.rel]
  · intro R' st a w' hx hst hk
    obtain ⟨x, v, h1, h2, h3⟩ := resultOf_sound hte hst hk
    refine ⟨hst.defers, v, h3, .inl ⟨x, v, R', rfl, hx, hst.mem, h2, ?_⟩⟩
    rw [hst.hp]; exact h1
  · intro R' st a w' hx hst hk
    obtain ⟨x, v, h1, h2, h3⟩ := resultOf_sound hte hst hk
    refine ⟨hst.defers, v, h3, .inl ⟨x, v, R', rfl, hx, hst.mem, h2, ?_⟩⟩
    rw [hst.hp]; exact h1
  · intro R' st a w' id hx hst hk
    exact hk.elim
  · intro R' st a w' sv v hx hst hv hk
    refine ⟨hst.defers, .inr ⟨sv, v, R', rfl, hx, hst.mem, hv, ?_⟩⟩
    rw [hst.hp]; exact hk
end
end Sx
end Go.Proofs.Ytkedomfjjahjnaa

namespace Go.Proofs.Ytkedomfjjahjnaa
namespace Sx
open Go
def ATy : List (Bool × Ty) → Type
  | [] => Unit
  | (_, t) :: r => t.T × ATy r
def packB (hp : Hp) : (t : Ty) → List SV → Option t.T
  | .bool, cs => pBool cs
  | .u64, cs => pU64 cs
  | .u8, cs => pU8 cs
  | .int, cs => pInt cs
  | .str, cs => pStr cs
  | .elem, cs => pElem cs
  | .prod a b, cs => pPair (packB hp a (cs.take a.size)) (packB hp b (cs.drop a.size))
  | .arr n t, cs => if cs.length = n * t.size then (List.range n).mapM fun i => packB hp t ((cs.drop (i * t.size)).take t.size) else none
  | .list t, cs => if 0 < t.size then pOne (asList t hp) cs else none
def getArg (hp : Hp) (b : Bool) (t : Ty) (x : SV) : Option t.T :=
  match b, x with
  | true, .agg l => packB hp t l
  | true, _ => none
  | false, x => packB hp t [x]
def getArgs (hp : Hp) : (as : List (Bool × Ty)) → List SV → Option (ATy as)
  | [], [] => some ()
  | (b, t) :: r, x :: l => pPair (getArg hp b t x) (getArgs hp r l)
  | _, _ => none
def inj (b : Bool) (t : Ty) (x : t.T) : SV := mkVal b (unpack t x)
def injs : (as : List (Bool × Ty)) → ATy as → List SV
  | [], _ => []
  | (b, t) :: r, x => inj b t x.1 :: injs r x.2
def Ctx.all (R : Ctx) (w : World) : Ctx := ⟨fun b => w.heap[b]?, ⟨fun _ => none, R.U.env⟩, fun _ => none, fun _ => none⟩
section
variable {P : Program} {R : Ctx} {w : World}
theorem all_ok (hm : HpOk R w) : HpOk (R.all w) w :=
  ⟨fun _ _ h => h, (fun _ _ h => by cases h), (fun c ch h => by cases h), (fun c c' ch ch' L L' h => by cases h), fun _ _ _ => rfl, hm.env⟩
theorem F_all (hm : HpOk R w) : ∀ b o, R.F b = some o → (R.all w).F b = some o := fun b o h => hm.F b o h
theorem borrow_part (hm : HpOk R w) {c e off len : Nat} {v : Value} {t : Ty} {xs : List t.T} {b : Chunk} (hc : R.hp c = some ⟨e, b⟩) (hb : b = .row t xs ∨ b = .frz t xs) (h : R.part c e off len v) :
    Rep (R.all w).F (.list t) ((xs.drop off).take len) [v] := by
  obtain ⟨h1, h2, ad, cap, rfl, h4, h5⟩ := Ctx.part_open hc h
  have hsh : b.shape = (true, t.size, xs.length) := by rcases hb with rfl | rfl <;> rfl
  rw [hsh] at h2 h5
  simp only at h2 h5
  have hlen : ((xs.drop off).take len).length = len := by simp; omega
  have hch := hm.ch c _ hc
  have key : ∀ (L : Loc) (arr : Array Value) (E : TypeId) (fz : Nat × Nat), R.σ c = some L → xs.length ≤ maxLen' → w.heap[L.block]? = some (.cells arr E fz) → arr.size = L.base + L.lim → xs.length * t.size ≤ L.lim → RowIn R arr L.base t xs →
      Rep (R.all w).F (.list t) ((xs.drop off).take len) [.slice ad len cap] := fun L arr E fz hσ hmx hbk ha hl hrow => by
    rw [hσ] at h5
    obtain ⟨h6, h7⟩ := h5
    refine ⟨by omega, ad, cap, by rw [hlen], by omega, ?_⟩
    by_cases hl0 : len = 0
    · left; exact List.eq_nil_of_length_eq_zero (by omega)
    · right
      have hle : (off + len) * t.size ≤ xs.length * t.size := Nat.mul_le_mul_right _ h2
      rw [Nat.add_mul] at hle
      refine ⟨L.block, L.base + off * t.size, arr, E, fz, h7 (by omega), hbk, by rw [hlen]; omega, fun i hi => ?_⟩
      rw [hlen] at hi
      have e1 : ((xs.drop off).take len).getD i t.d = xs.getD (off + i) t.d := by
        simp only [List.getD_eq_getElem?_getD]
        rw [List.getElem?_take_of_lt hi, List.getElem?_drop]
      rw [e1, Nat.add_assoc, ← Nat.add_mul]
      exact Rep_mono (F_all hm) _ _ _ (hrow _ (by omega))
  cases hσ : R.σ c with
  | none =>
    rw [hσ] at h5
    simp only at h5
    have : (xs.drop off).take len = [] := List.eq_nil_of_length_eq_zero (by omega)
    rw [this]
    have hl0 : len = 0 := by omega
    subst hl0
    exact Rep_list_nil t ad cap
  | some L =>
    rcases hb with rfl | rfl
    · simp only [ChOk, hσ] at hch
      obtain ⟨_, hmx, _, _, arr, E, hbk, ha, hl, hrow⟩ := hch
      exact key L arr E _ hσ hmx hbk ha hl hrow
    · simp only [ChOk, hσ] at hch
      obtain ⟨_, hmx, arr, E, fz, hbk, ha, hl, hrow⟩ := hch
      exact key L arr E fz hσ hmx (hm.F _ _ hbk) ha hl hrow
theorem borrow_list (hm : HpOk R w) {t : Ty} {x : SV} {ys : List t.T} {v : Value} (h : asList t R.hp x = some ys) (hx : SV.rel R x v) : Rep (R.all w).F (.list t) ys [v] := by
  unfold asList at h
  split at h
  · obtain ⟨e, rfl⟩ := rowList_some h
    subst e
    simp only [SV.rel] at hx
    exact Rep_mono (F_all hm) _ _ _ hx
  · cases h
    simp only [SV.rel] at hx
    obtain ⟨ad, rfl⟩ := hx
    exact Rep_list_nil t ad 0
  · rename_i c e
    simp only [SV.rel] at hx
    split at h
    · rename_i ep t' xs hc
      split at h
      · rename_i he
        subst he
        obtain ⟨e, rfl⟩ := rowList_some h
        subst e
        have := borrow_part hm hc (.inl rfl) (Ctx.own_part hc hx.2)
        simpa [Chunk.shape] using this
      · cases h
    · rename_i ep t' xs hc
      split at h
      · rename_i he
        subst he
        obtain ⟨e, rfl⟩ := rowList_some h
        subst e
        have := borrow_part hm hc (.inr rfl) (Ctx.own_part hc hx.2)
        simpa [Chunk.shape] using this
      · cases h
    · cases h
  · rename_i c e
    simp only [SV.rel] at hx
    split at h
    · rename_i ep t' xs hc
      split at h
      · rename_i he
        subst he
        obtain ⟨e, rfl⟩ := rowList_some h
        subst e
        have := borrow_part hm hc (.inl rfl) (Ctx.own_part hc hx.2.1)
        simpa [Chunk.shape] using this
      · cases h
    · rename_i ep t' xs hc
      split at h
      · rename_i he
        subst he
        obtain ⟨e, rfl⟩ := rowList_some h
        subst e
        have := borrow_part hm hc (.inr rfl) (Ctx.own_part hc hx.2.1)
        simpa [Chunk.shape] using this
      · cases h
    · cases h
  · rename_i c e off len
    simp only [SV.rel] at hx
    split at h
    · rename_i ep t' xs hc
      split at h
      · rename_i he
        subst he
        cases hr : rowList t t' xs with
        | none => rw [hr] at h; cases h
        | some zs =>
          rw [hr] at h
          cases h
          obtain ⟨e, rfl⟩ := rowList_some hr
          subst e
          exact borrow_part hm hc (.inl rfl) hx.2
      · cases h
    · rename_i ep t' xs hc
      split at h
      · rename_i he
        subst he
        cases hr : rowList t t' xs with
        | none => rw [hr] at h; cases h
        | some zs =>
          rw [hr] at h
          cases h
          obtain ⟨e, rfl⟩ := rowList_some hr
          subst e
          exact borrow_part hm hc (.inr rfl) hx.2
      · cases h
    · cases h
  · cases h
theorem rel_packB (hm : HpOk R w) : ∀ (t : Ty) (cs : List SV) (x : t.T) (vs : List Value), packB R.hp t cs = some x → SV.relL R cs vs → Rep (R.all w).F t x vs
  | .bool, cs, x, vs, h, hr => Rep_mono (F_all hm) _ _ _ (rel_pack hm .bool cs x vs h hr)
  | .u64, cs, x, vs, h, hr => Rep_mono (F_all hm) _ _ _ (rel_pack hm .u64 cs x vs h hr)
  | .u8, cs, x, vs, h, hr => Rep_mono (F_all hm) _ _ _ (rel_pack hm .u8 cs x vs h hr)
  | .int, cs, x, vs, h, hr => Rep_mono (F_all hm) _ _ _ (rel_pack hm .int cs x vs h hr)
  | .str, cs, x, vs, h, hr => Rep_mono (F_all hm) _ _ _ (rel_pack hm .str cs x vs h hr)
  | .elem, cs, x, vs, h, hr => Rep_mono (F_all hm) _ _ _ (rel_pack hm .elem cs x vs h hr)
  | .prod a b, cs, x, vs, h, hr => by
    obtain ⟨h1, h2⟩ := pPair_some h
    have r1 := rel_packB hm a _ _ _ h1 (SV.relL_take hr a.size)
    have r2 := rel_packB hm b _ _ _ h2 (SV.relL_drop hr a.size)
    refine ⟨?_, r1, r2⟩
    rw [← List.take_append_drop a.size vs, List.length_append, Rep_length _ _ _ r1, Rep_length _ _ _ r2]
  | .arr n t, cs, x, vs, h, hr => by
    simp only [packB] at h
    split at h
    · rename_i hl
      obtain ⟨h1, h2⟩ := mapM_getD t.d h
      refine ⟨by rw [SV.relL_length hr, hl], by simpa using h1, fun i hi => ?_⟩
      have := h2 i (by simpa using hi)
      simp only [List.getElem_range] at this
      exact rel_packB hm t _ _ _ this (SV.relL_take (SV.relL_drop hr (i * t.size)) t.size)
    · cases h
  | .list t, cs, x, vs, h, hr => by
    simp only [packB] at h
    split at h
    · obtain ⟨y, rfl, hy⟩ := pOne_some h
      obtain ⟨v, rfl, hv⟩ := relL_one hr
      exact borrow_list hm hy hv
    · cases h
theorem getArg_rel (hm : HpOk R w) {b : Bool} {t : Ty} {x : SV} {y : t.T} {v : Value} (h : getArg R.hp b t x = some y) (hx : SV.rel R x v) : SV.rel (R.all w) (inj b t y) v := by
  unfold getArg at h
  split at h
  · rename_i l
    simp only [SV.rel] at hx
    obtain ⟨vs, rfl, hr, hone⟩ := hx
    have := rel_packB hm t l y vs h hr
    exact mkAgg_rel (rel_unpack (R := R.all w) t y vs this) hone
  · cases h
  · have := rel_packB hm t [x] y [v] h (relL_single hx)
    have hl := Rep_length _ _ _ this
    have hu := rel_unpack (R := R.all w) t y [v] this
    simp only [inj, mkVal, Bool.false_eq_true, if_false]
    cases hc : unpack t y with
    | nil => rw [hc] at hu; simp only [SV.relL] at hu; cases hu
    | cons z l =>
      rw [hc] at hu
      simp only [SV.relL] at hu
      obtain ⟨v', r, h1, h2, _⟩ := hu
      cases h1
      simpa using h2
theorem getArgs_rel (hm : HpOk R w) : ∀ {as : List (Bool × Ty)} {args : List SV} {x : ATy as} {vs : List Value}, getArgs R.hp as args = some x → SV.relL R args vs → SV.relL (R.all w) (injs as x) vs
  | [], [], x, vs, h, hr => by simpa only [injs, SV.relL] using hr
  | [], _ :: _, x, vs, h, hr => by cases h
  | (b, t) :: r, [], x, vs, h, hr => by cases h
  | (b, t) :: r, y :: l, x, vs, h, hr => by
    obtain ⟨h1, h2⟩ := pPair_some h
    simp only [SV.relL] at hr
    obtain ⟨v, vs', rfl, h3, h4⟩ := hr
    simp only [injs, SV.relL]
    exact ⟨v, vs', rfl, getArg_rel hm h1 h3, getArgs_rel hm h2 h4⟩
def Ty.plain : Ty → Bool
  | .list _ => false
  | .prod a b => a.plain && b.plain
  | .arr _ t => t.plain
  | _ => true
theorem Rep_plain {F F' : Nat → Option Obj} : ∀ (t : Ty) (_ : t.plain = true) (x : t.T) (cs : List Value), Rep F t x cs → Rep F' t x cs
  | .bool, _, _, _, h => h
  | .u64, _, _, _, h => h
  | .u8, _, _, _, h => h
  | .int, _, _, _, h => h
  | .str, _, _, _, h => h
  | .elem, _, _, _, h => h
  | .prod a b, hp, x, cs, h => by
    simp only [Ty.plain, Bool.and_eq_true] at hp
    exact ⟨h.1, Rep_plain a hp.1 _ _ h.2.1, Rep_plain b hp.2 _ _ h.2.2⟩
  | .arr n t, hp, x, cs, h => ⟨h.1, h.2.1, fun i hi => Rep_plain t hp _ _ (h.2.2 i hi)⟩
def SV.flat : SV → Bool
  | .bool _ | .u64 _ | .u8 _ | .int _ | .str _ => true
  | _ => false
theorem flat_rel {R R' : Ctx} : ∀ {x : SV} {v : Value}, x.flat = true → SV.rel R x v → SV.rel R' x v := by
  intro x v hf h
  cases x <;> first | (cases hf; done) | (simpa only [SV.rel] using h)
theorem flat_relL {R R' : Ctx} : ∀ {l : List SV} {vs : List Value}, l.all SV.flat = true → SV.relL R l vs → SV.relL R' l vs
  | [], vs, _, h => by simpa only [SV.relL] using h
  | x :: l, vs, hf, h => by
    simp only [List.all_cons, Bool.and_eq_true] at hf
    simp only [SV.relL] at h ⊢
    obtain ⟨v, r, h1, h2, h3⟩ := h
    exact ⟨v, r, h1, flat_rel hf.1 h2, flat_relL hf.2 h3⟩
theorem unpack_flat : ∀ (t : Ty) (_ : t.plain = true) (x : t.T), (unpack t x).all SV.flat = true
  | .bool, _, _ => rfl
  | .u64, _, _ => rfl
  | .u8, _, _ => rfl
  | .int, _, _ => rfl
  | .str, _, _ => rfl
  | .elem, _, _ => rfl
  | .prod a b, hp, x => by
    simp only [Ty.plain, Bool.and_eq_true] at hp
    simp only [unpack, List.all_append, unpack_flat a hp.1, unpack_flat b hp.2, Bool.and_self]
  | .arr n t, hp, x => by
    simp only [unpack, List.all_flatMap, List.all_eq_true]
    intro i _
    simpa [List.all_eq_true] using unpack_flat t hp _
theorem inj_plain {R R' : Ctx} {b : Bool} {t : Ty} (hp : t.plain = true) {x : t.T} {v : Value} (h : SV.rel R (inj b t x) v) : SV.rel R' (inj b t x) v := by
  have hf := unpack_flat t hp x
  unfold inj mkVal at h ⊢
  cases b
  · simp only [Bool.false_eq_true, if_false] at h ⊢
    cases hc : unpack t x with
    | nil => simp [SV.rel]
    | cons y l =>
      rw [hc] at h hf
      simp only [List.all_cons, Bool.and_eq_true] at hf
      exact flat_rel hf.1 h
  · simp only [if_true, SV.rel] at h ⊢
    obtain ⟨vs, h1, h2, h3⟩ := h
    exact ⟨vs, h1, flat_relL hf h2, h3⟩
theorem injs_plain {R R' : Ctx} : ∀ {rs : List (Bool × Ty)} (_ : rs.all (fun r => r.2.plain) = true) {x : ATy rs} {vs : List Value}, SV.relL R (injs rs x) vs → SV.relL R' (injs rs x) vs
  | [], _, _, _, h => by simpa only [injs, SV.relL] using h
  | (b, t) :: r, hp, x, vs, h => by
    simp only [List.all_cons, Bool.and_eq_true] at hp
    simp only [injs, SV.relL] at h ⊢
    obtain ⟨v, vs', h1, h2, h3⟩ := h
    exact ⟨v, vs', h1, inj_plain hp.1 h2, injs_plain hp.2 h3⟩
theorem oneOf_rel {R R' : Ctx} {l : List SV} {v : Value} (h : ∀ vs, SV.relL R l vs → SV.relL R' l vs) (hv : SV.rel R (oneOf l) v) : SV.rel R' (oneOf l) v := by
  cases l with
  | nil => simp only [oneOf, SV.rel] at hv ⊢; obtain ⟨vs, h1, h2⟩ := hv; exact ⟨vs, h1, h _ h2⟩
  | cons x l =>
    cases l with
    | nil =>
      simp only [oneOf] at hv ⊢
      obtain ⟨v', he, hv'⟩ := relL_one (h [v] (relL_single hv))
      cases he
      exact hv'
    | cons y l => simp only [oneOf, SV.rel] at hv ⊢; obtain ⟨vs, h1, h2⟩ := hv; exact ⟨vs, h1, h _ h2⟩
structure PureSpec where
  as : List (Bool × Ty)
  rs : List (Bool × Ty)
  pre : ATy as → Bool
  F : ATy as → ATy rs
def PureSpec.summ (S : PureSpec) : Summ := ⟨false, fun _ args hp => match getArgs hp S.as args with
  | some x => .guard (S.pre x) (.ok (.ret ⟨oneOf (injs S.rs (S.F x)), []⟩))
  | none => .fail⟩
def Ctx.behind (R R₁ : Ctx) (w : World) : Ctx := { R with F := fun b => if b < w.heap.size then R.F b else R₁.F b }
theorem behind_ok (hm : HpOk R w) {R₁ : Ctx} {w₁ : World} (hx : (R.all w).Ext R₁) (h1 : HpOk R₁ w₁) : R.Ext (R.behind R₁ w) ∧ HpOk (R.behind R₁ w) w₁ := by
  have keep : ∀ b, b < w.heap.size → w₁.heap[b]? = w.heap[b]? := fun b hb => by
    have : (R.all w).F b = some w.heap[b] := by simp [Ctx.all, hb]
    rw [h1.F _ _ (hx.F _ _ this)]
    simp [hb]
  have hFlt : ∀ b o, R.F b = some o → b < w.heap.size := fun b o h => (Array.getElem?_eq_some_iff.1 (hm.F b o h)).1
  have hx2 : R.Ext (R.behind R₁ w) := ⟨fun b o h => by simp [Ctx.behind, hFlt b o h, h], rfl, fun c ch hc => ⟨ch, hc, Nat.le_refl _, fun _ => ⟨rfl, rfl⟩⟩⟩
  refine ⟨hx2, fun b o h => ?_, fun b o h => ?_, fun c ch hc => ?_, hm.apart, fun b o h => ?_, by have h2 := h1.env; rw [hx.U] at h2; exact h2⟩
  rotate_right
  · simp only [Ctx.behind] at h ⊢
    split at h
    · exact hm.FU b o h
    · cases hU : R.U b with
      | none => rfl
      | some o' => exact absurd (Array.getElem?_eq_some_iff.1 (hm.U b o' hU)).1 (by assumption)
  · simp only [Ctx.behind] at h
    split at h
    · rename_i hb
      rw [keep b hb]; exact hm.F b o h
    · exact h1.F b o h
  · have := hm.U b o h
    rw [keep b (Array.getElem?_eq_some_iff.1 this).1, this]
  · have hch := hm.ch c ch hc
    obtain ⟨ep, body⟩ := ch
    cases body with
    | row t xs =>
      simp only [ChOk] at hch ⊢
      refine ⟨hch.1, hch.2.1, ?_⟩
      replace hch := hch.2.2
      show match R.σ c with | none => _ | some L => _
      cases hL : R.σ c with
      | none => rw [hL] at hch; exact hch
      | some L =>
        rw [hL] at hch
        obtain ⟨c1, c2, arr, E, c3, c4, c5, c6⟩ := hch
        have hb := (Array.getElem?_eq_some_iff.1 c3).1
        refine ⟨by simp only [Ctx.behind, hb, if_true]; exact c1, c2, arr, E, (keep _ hb).trans c3, c4, c5, fun i hi => Rep_mono hx2.F _ _ _ (c6 i hi)⟩
    | frz t xs =>
      simp only [ChOk] at hch ⊢
      refine ⟨hch.1, hch.2.1, ?_⟩
      replace hch := hch.2.2
      show match R.σ c with | none => _ | some L => _
      cases hL : R.σ c with
      | none => rw [hL] at hch; exact hch
      | some L =>
        rw [hL] at hch
        obtain ⟨arr, E, fz, c3, c4, c5, c6⟩ := hch
        exact ⟨arr, E, fz, hx2.F _ _ c3, c4, c5, fun i hi => Rep_mono hx2.F _ _ _ (c6 i hi)⟩
    | cells vs =>
      simp only [ChOk] at hch ⊢
      obtain ⟨L, hL, c1, c2, arr, E, c3, c4, c5, c6, c7⟩ := hch
      have hb := (Array.getElem?_eq_some_iff.1 c3).1
      exact ⟨L, hL, by simp only [Ctx.behind, hb, if_true]; exact c1, c2, arr, E, (keep _ hb).trans c3, c4, c5, SV.relL_ext hx2 _ _ c6, c7⟩
theorem pure_ok {te : TE} {Φ : Env} (hte : TeOk P te) (hΦ : EnvOk P Φ) (hany : AnyOk P te Φ) {f : FuncId} {fn : Func} {c : Code} (hf : P.funcs[f]? = some fn) (hb : fn.body = some c) (hname : (fn.name == "runtime.NumGoroutine") = false) {Λ : Lam}
    (hΛ : ∀ R, (∀ c, R.hp c = none) → LamOk P R Λ c) {n : Nat} (S : PureSpec) (hpl : S.rs.all (fun r => r.2.plain) = true)
    (h : ∀ x : ATy S.as, S.pre x = true → wpf te Φ Λ n fn (injs S.as x) (fun _ => none) (fun v _ => v = oneOf (injs S.rs (S.F x))) (fun _ _ => False)) : SummOk P f S.summ := by
  refine ⟨?_⟩
  intro R w d args vs out hm hr hrun
  refine .inl ⟨fn, hf, hname, by rw [hb]; rfl, ?_⟩
  simp only [PureSpec.summ] at hrun
  split at hrun
  · rename_i x hx
    obtain ⟨hpre, h2⟩ := OT.run_guard hrun
    cases h2
    have := wpf_sound hte hΦ hany hf hb (hΛ _ fun _ => rfl) (all_ok hm) (getArgs_rel hm hx hr) (h x hpre)
    refine this.mono fun en w' hp => ?_
    rcases hp with ⟨y, v, R₁, rfl, hx1, hm1, hv, hy⟩ | ⟨_, _, _, _, _, _, _, hf⟩
    · subst hy
      obtain ⟨e1, e2⟩ := behind_ok hm hx1 hm1
      exact ⟨v, R.behind R₁ w, rfl, ⟨e1, rfl, e2⟩, oneOf_rel (fun vs hvs => injs_plain hpl hvs) hv⟩
    · exact hf.elim
  · cases hrun
end
end Sx
end Go.Proofs.Ytkedomfjjahjnaa

namespace Go.Proofs.Ytkedomfjjahjnaa
namespace Sx
open Go
def inBlk (d n : Nat) : Prop := n / 4096 = d + 1
structure Grown (d : Nat) (hp hp' : Hp) : Prop where
  keep : ∀ c ch, hp c = some ch → hp' c = some ch
  free : ∀ n, inBlk d n → hp n = none → hp' n = none
theorem rowLen_isSome {c e n : Nat} {hp : Hp} (h : rowLen hp c e = some n) : ∃ b, hpGet hp c e = some b := by
  unfold rowLen at h
  cases hq : hpGet hp c e with
  | none => rw [hq] at h; cases h
  | some b => exact ⟨b, rfl⟩
theorem rowSize_isSome {c e n : Nat} {hp : Hp} (h : rowSize hp c e = some n) : ∃ b, hpGet hp c e = some b := by
  unfold rowSize at h
  cases hq : hpGet hp c e with
  | none => rw [hq] at h; cases h
  | some b => exact ⟨b, rfl⟩
section
variable {d : Nat} {hp hp' : Hp} (hg : Grown d hp hp')
include hg
theorem hpGet_grown {c e : Nat} {b : Chunk} (h : hpGet hp c e = some b) : hpGet hp' c e = some b := by
  have := hg.keep _ _ (hpGet_some h)
  simp [hpGet, this]
theorem freshFrom_grown : ∀ (n k : Nat), n + k ≤ 4000 → freshFrom hp' d n k = freshFrom hp d n k
  | 0, k, _ => rfl
  | n + 1, k, hk => by
    simp only [freshFrom]
    cases h : hp ((d + 1) * 4096 + k) with
    | none =>
      have : hp' ((d + 1) * 4096 + k) = none := hg.free _ (by unfold inBlk; omega) h
      rw [this]
    | some ch =>
      rw [hg.keep _ _ h]
      exact freshFrom_grown n (k + 1) (by omega)
theorem fresh_grown : fresh hp' d = fresh hp d := freshFrom_grown hg 4000 0 (by omega)
theorem fresh_free_grown (h : ¬ (hp (fresh hp d)).isSome = true) (hb : inBlk d (fresh hp d)) : ¬ (hp' (fresh hp' d)).isSome = true := by
  rw [fresh_grown hg, hg.free _ hb (fresh_none h)]
  simp
theorem rowLen_grown {c e n : Nat} (h : rowLen hp c e = some n) : rowLen hp' c e = some n := by
  unfold rowLen at h ⊢
  cases hq : hpGet hp c e with
  | none => rw [hq] at h; cases h
  | some b => rw [hpGet_grown hg hq]; rw [hq] at h; exact h
theorem rowSize_grown {c e n : Nat} (h : rowSize hp c e = some n) : rowSize hp' c e = some n := by
  unfold rowSize at h ⊢
  cases hq : hpGet hp c e with
  | none => rw [hq] at h; cases h
  | some b => rw [hpGet_grown hg hq]; rw [hq] at h; exact h
theorem asImm_grown {t : Ty} {x : SV} {ys : List t.T} (h : asImm t hp x = some ys) : asImm t hp' x = some ys := by
  cases x <;> simp only [asImm] at h ⊢ <;> try (first | exact h | (cases h; done))
  case own c e =>
    cases hc : hp c with
    | none => rw [hc] at h; cases h
    | some ch => rw [hg.keep _ _ hc]; rw [hc] at h; exact h
theorem asList_grown {t : Ty} {x : SV} {ys : List t.T} (h : asList t hp x = some ys) : asList t hp' x = some ys := by
  cases x <;> simp only [asList] at h ⊢ <;> try (first | exact h | (cases h; done))
  case own c e =>
    cases hc : hp c with
    | none => rw [hc] at h; cases h
    | some ch => rw [hg.keep _ _ hc]; rw [hc] at h; exact h
  case part c e off len =>
    cases hc : hp c with
    | none => rw [hc] at h; cases h
    | some ch => rw [hg.keep _ _ hc]; rw [hc] at h; exact h
  case clip c e =>
    cases hc : hp c with
    | none => rw [hc] at h; cases h
    | some ch => rw [hg.keep _ _ hc]; rw [hc] at h; exact h
theorem pack_grown : ∀ {t : Ty} {cs : List SV} {x : t.T}, pack hp t cs = some x → pack hp' t cs = some x
  | .bool, _, _, h => h
  | .u64, _, _, h => h
  | .u8, _, _, h => h
  | .int, _, _, h => h
  | .str, _, _, h => h
  | .elem, _, _, h => h
  | .prod a b, cs, x, h => by
    obtain ⟨h1, h2⟩ := pPair_some h
    simp only [pack, pack_grown h1, pack_grown h2, pPair]
  | .arr n t, cs, x, h => by
    simp only [pack] at h ⊢
    split at h
    · rename_i hl
      rw [if_pos hl]
      exact mapM_grown (fun _ _ => pack_grown) h
    · cases h
  | .list t, cs, x, h => by
    obtain ⟨y, rfl, hy⟩ := pOne_some h
    simp only [pack, pOne]
    exact asImm_grown hg hy
theorem packB_grown : ∀ {t : Ty} {cs : List SV} {x : t.T}, packB hp t cs = some x → packB hp' t cs = some x
  | .bool, _, _, h => h
  | .u64, _, _, h => h
  | .u8, _, _, h => h
  | .int, _, _, h => h
  | .str, _, _, h => h
  | .elem, _, _, h => h
  | .prod a b, cs, x, h => by
    obtain ⟨h1, h2⟩ := pPair_some h
    simp only [packB, packB_grown h1, packB_grown h2, pPair]
  | .arr n t, cs, x, h => by
    simp only [packB] at h ⊢
    split at h
    · rename_i hl
      rw [if_pos hl]
      exact mapM_grown (fun _ _ => packB_grown) h
    · cases h
  | .list t, cs, x, h => by
    simp only [packB] at h ⊢
    split at h
    · rename_i hp0
      rw [if_pos hp0]
      obtain ⟨y, rfl, hy⟩ := pOne_some h
      simp only [pOne]
      exact asList_grown hg hy
    · cases h
theorem getArg_grown {b : Bool} {t : Ty} {x : SV} {y : t.T} (h : getArg hp b t x = some y) : getArg hp' b t x = some y := by
  unfold getArg at h ⊢
  split at h
  · exact packB_grown hg h
  · cases h
  · exact packB_grown hg h
theorem getArgs_grown : ∀ {as : List (Bool × Ty)} {args : List SV} {x : ATy as}, getArgs hp as args = some x → getArgs hp' as args = some x
  | [], [], _, h => h
  | [], _ :: _, _, h => by cases h
  | (_, _) :: _, [], _, h => by cases h
  | (b, t) :: r, y :: l, x, h => by
    have h' : pPair (getArg hp b t y) (getArgs hp r l) = some x := h
    obtain ⟨h1, h2⟩ := pPair_some h'
    show pPair (getArg hp' b t y) (getArgs hp' r l) = some x
    rw [getArg_grown hg h1, getArgs_grown h2]
    rfl
theorem pure_grown {S : PureSpec} {args : List SV} {out : Out} (h : (S.summ.f d args hp).run = some out) : (S.summ.f d args hp').run = some out := by
  simp only [PureSpec.summ] at h ⊢
  cases hx : getArgs hp S.as args with
  | none => rw [hx] at h; cases h
  | some x => rw [getArgs_grown hg hx]; rw [hx] at h; exact h
theorem loadCells_grown {n : Nat} {x : SV} {cs : List SV} (h : (loadCells hp n x).run = some cs) : (loadCells hp' n x).run = some cs := by
  unfold loadCells at h ⊢
  split at h
  · rename_i c e i off
    cases hq : hpGet hp c e with
    | none => rw [hq] at h; cases h
    | some b => rw [hpGet_grown hg hq]; rw [hq] at h; exact h
  · exact h
  · exact h
  · cases h
theorem arrayPtr_grown {te : TE} {T : TypeId} {x z : SV} (h : (arrayPtr te hp T x).run = some z) : (arrayPtr te hp' T x).run = some z := by
  unfold arrayPtr at h ⊢
  split at h
  · split at h
    · cases h
    · split at h
      · cases h
      · rename_i hn
        rw [if_neg hn]
        split at h
        · split at h
          · rename_i hrs
            rw [if_pos (rowSize_grown hg hrs)]
            split at h
            · rename_i m hm
              rw [rowLen_grown hg hm]
              exact h
            · cases h
          · cases h
        · split at h
          · rename_i hrs
            rw [if_pos (rowSize_grown hg hrs)]
            exact h
          · cases h
        · exact h
        · cases h
  · cases h
theorem setMany_grown {t : Ty} {cs : List SV} : ∀ {m j i : Nat} {xs ys : List t.T}, setMany t hp cs m j i xs = some ys → setMany t hp' cs m j i xs = some ys
  | 0, _, _, _, _, h => h
  | m + 1, j, i, xs, ys, h => by
    simp only [setMany] at h ⊢
    split at h
    · rename_i x hx
      rw [pack_grown hg hx]
      exact setMany_grown h
    · cases h
theorem storeCells_grown {cs : List SV} {x : SV} {u : List (Nat × Ch)} (h : (storeCells hp cs x).run = some u) : (storeCells hp' cs x).run = some u := by
  unfold storeCells at h ⊢
  split at h
  · rename_i c e i off
    cases hq : hpGet hp c e with
    | none => rw [hq] at h; cases h
    | some b =>
      rw [hpGet_grown hg hq]
      rw [hq] at h
      cases b with
      | frz t xs => cases h
      | cells vs => exact h
      | row t xs =>
        simp only at h ⊢
        split at h
        · rename_i h1
          rw [if_pos h1]
          obtain ⟨h2, h3⟩ := OT.run_guard h
          rw [h2]
          split at h3
          · rename_i y hy
            rw [pack_grown hg hy]
            exact h3
          · cases h3
        · rename_i h1
          rw [if_neg h1]
          split at h
          · rename_i h4
            rw [if_pos h4]
            obtain ⟨h2, h3⟩ := OT.run_guard h
            rw [h2]
            split at h3
            · rename_i ys hy
              rw [setMany_grown hg hy]
              exact h3
            · cases h3
          · cases h
  · cases h
theorem rowSize_same {c e : Nat} {b : Chunk} (h : hpGet hp c e = some b) : rowSize hp' c e = rowSize hp c e := by
  unfold rowSize
  rw [hpGet_grown hg h, h]
theorem rowLen_same {c e : Nat} {b : Chunk} (h : hpGet hp c e = some b) : rowLen hp' c e = rowLen hp c e := by
  unfold rowLen
  rw [hpGet_grown hg h, h]
theorem indexAddr_grown {te : TE} {T : TypeId} {x z : SV} {k : Int} (h : (indexAddr te hp T x k).run = some z) : (indexAddr te hp' T x k).run = some z := by
  unfold indexAddr at h ⊢
  split at h
  · cases h
  · split at h
    · split at h
      · cases h
      · split at h
        · rename_i ei _ c ep i off
          cases hq : hpGet hp c ep with
          | none =>
            have : rowSize hp c ep = none := by unfold rowSize; rw [hq]
            rw [this, hq] at h
            simp at h
            cases h
          | some b =>
            rw [rowSize_same hg hq, hpGet_grown hg hq]
            rw [hq] at h
            exact h
        · exact h
        · cases h
    · split at h
      · cases h
      · split at h
        · split at h
          · rename_i n hn
            obtain ⟨b, hb⟩ := rowLen_isSome hn
            rw [rowLen_same hg hb, hn, rowSize_same hg hb]
            exact h
          · cases h
        · split at h
          · rename_i n hn
            obtain ⟨b, hb⟩ := rowLen_isSome hn
            rw [rowLen_same hg hb, hn, rowSize_same hg hb]
            exact h
          · cases h
        · split at h
          · rename_i hs
            obtain ⟨b, hb⟩ := rowSize_isSome hs
            rw [rowSize_same hg hb, if_pos hs]
            exact h
          · cases h
        · exact h
        · cases h
    · cases h
end
end Sx
end Go.Proofs.Ytkedomfjjahjnaa

namespace Go.Proofs.Ytkedomfjjahjnaa
namespace Sx
open Go
theorem rowSize_none {hp : Hp} {c e : Nat} (h : hpGet hp c e = none) : rowSize hp c e = none := by unfold rowSize; rw [h]
theorem rowLen_none {hp : Hp} {c e : Nat} (h : hpGet hp c e = none) : rowLen hp c e = none := by unfold rowLen; rw [h]
section
variable {d : Nat} {hp hp' : Hp} (hg : Grown d hp hp')
include hg
theorem subPart_grown {size c ep off len : Nat} {lo hi : Option SV} {z : SV} (h : (subPart hp size c ep off len lo hi).run = some z) : (subPart hp' size c ep off len lo hi).run = some z := by
  unfold subPart at h ⊢
  split at h
  · rename_i hs
    obtain ⟨b, hb⟩ := rowSize_isSome hs
    rw [rowSize_same hg hb, if_pos hs]
    exact h
  · cases h
theorem sliceOp_grown {te : TE} {T : TypeId} {x z : SV} {lo hi mx : Option SV} (h : (sliceOp te hp T x lo hi mx).run = some z) : (sliceOp te hp' T x lo hi mx).run = some z := by
  unfold sliceOp at h ⊢
  split at h
  · cases h
  · split at h
    · split at h
      · rename_i ei c ep i off _
        split at h
        · rename_i hc
          obtain ⟨b, hb⟩ := rowSize_isSome hc.2.2
          rw [rowSize_same hg hb, if_pos hc, rowLen_same hg hb]
          exact h
        · cases h
      · cases h
    · split at h
      · cases h
      · rename_i ei _
        split at h
        · rename_i hn
          rw [if_pos hn]
          cases x <;> first | exact h | (cases h; done) | skip
          case own c ep | clip c ep | part c ep _ _ =>
            cases hq : hpGet hp c ep with
            | none => simp only [rowLen_none hq] at h; cases h
            | some b => simp only [rowLen_same hg hq]; exact h
        · rename_i hn
          rw [if_neg hn]
          cases mx with
          | some m => cases x <;> first | exact h | (cases h; done)
          | none =>
            cases x <;> first | exact h | (cases h; done) | skip
            case own c ep =>
              cases hq : hpGet hp c ep with
              | none => simp only [rowLen_none hq] at h; cases h
              | some b =>
                simp only [rowLen_same hg hq]
                simp only at h
                split at h
                · exact subPart_grown hg h
                · cases h
            case part c ep off len => exact subPart_grown hg h
    · exact h
    · cases h
theorem lenOp_grown {te : TE} {T : TypeId} {x z : SV} (h : (lenOp te hp T x).run = some z) : (lenOp te hp' T x).run = some z := by
  unfold lenOp at h ⊢
  split at h
  · cases h
  · rename_i ti hT
    cases hd : ti.desc <;> rw [hd] at h <;> cases x <;> first | exact h | (cases h; done) | skip
    case slice.own _ c ep =>
      simp only at h ⊢
      cases hq : hpGet hp c ep with
      | none => simp only [rowLen_none hq] at h; cases h
      | some b => simp only [rowLen_same hg hq]; exact h
    case slice.clip _ c ep =>
      simp only at h ⊢
      cases hq : hpGet hp c ep with
      | none => simp only [rowLen_none hq] at h; cases h
      | some b => simp only [rowLen_same hg hq]; exact h
    case slice.part _ c ep off len =>
      simp only at h ⊢
      cases hq : hpGet hp c ep with
      | none => simp only [rowLen_none hq] at h; cases h
      | some b => simp only [rowLen_same hg hq]; exact h
omit hg in
theorem freshFrom_inBlk : ∀ (n k : Nat), n + k ≤ 4000 → inBlk d (freshFrom hp d n k)
  | 0, k, h => by unfold inBlk; simp only [freshFrom]; omega
  | n + 1, k, h => by
    simp only [freshFrom]
    split
    · unfold inBlk; omega
    · exact freshFrom_inBlk n (k + 1) (by omega)
omit hg in
theorem fresh_inBlk (d : Nat) (hp : Hp) : inBlk d (fresh hp d) := freshFrom_inBlk 4000 0 (by omega)
theorem fresh_isSome_grown (h : ¬ (hp (fresh hp d)).isSome = true) : ¬ (hp' (fresh hp d)).isSome = true := by
  rw [hg.free _ (fresh_inBlk d hp) (fresh_none h)]
  simp
theorem list_grown {t : Ty} {x : SV} {ys : List t.T} : (match x with
        | .str b => rowList t .u8 b
        | _ => asList t hp x) = some ys → (match x with
        | .str b => rowList t .u8 b
        | _ => asList t hp' x) = some ys := fun h => by
  cases x <;> first | exact h | exact asList_grown hg h
theorem appendOp_grown {te : TE} {T : TypeId} {s x : SV} {e : Eff} (h : (appendOp te hp d T s x).run = some e) : (appendOp te hp' d T s x).run = some e := by
  unfold appendOp at h ⊢
  split at h
  · split at h
    · rename_i size bytes _ _ t hte
      split at h
      · cases h
      · rename_i hb
        rw [if_neg hb]
        split at h
        · rename_i ys hys
          have key := list_grown hg hys
          split
          case h_2 hno => exact absurd (hno.symm.trans key) (by simp)
          rename_i ys' hys'
          have : ys' = ys := Option.some.inj (hys'.symm.trans key)
          subst this
          cases s <;> first | (cases h; done) | skip
          case own c ep =>
            simp only at h ⊢
            cases hq : hpGet hp c ep with
            | none => rw [hq] at h; cases h
            | some b => rw [hpGet_grown hg hq]; rw [hq] at h; exact h
          case emp =>
            simp only at h ⊢
            split at h
            · cases h
            · rename_i hf
              rw [fresh_grown hg, if_neg (fresh_isSome_grown hg hf)]
              exact h
          case clip c ep =>
            simp only at h ⊢
            cases hq : hpGet hp c ep with
            | none => rw [hq] at h; cases h
            | some b =>
              rw [hpGet_grown hg hq]; rw [hq] at h
              cases b <;> first | (cases h; done) | skip
              case row t' xs =>
                simp only at h ⊢
                split at h
                · split at h
                  · cases h
                  · rename_i hf
                    rw [fresh_grown hg, if_neg (fresh_isSome_grown hg hf)]
                    exact h
                · cases h
        · cases h
    · cases h
  · cases h
theorem copyOp_grown {te : TE} {T : TypeId} {x y : SV} {e : Eff} (h : (copyOp te hp T x y).run = some e) : (copyOp te hp' T x y).run = some e := by
  unfold copyOp at h ⊢
  split at h
  · split at h
    · split at h
      · cases h
      · rename_i hb
        rw [if_neg hb]
        split at h
        · rename_i ys hys
          have key := list_grown hg hys
          split
          case h_2 hno => exact absurd (hno.symm.trans key) (by simp)
          rename_i ys' hys'
          have : ys' = ys := Option.some.inj (hys'.symm.trans key)
          subst this
          cases x <;> first | (cases h; done) | skip
          case own c ep =>
            simp only at h ⊢
            cases hq : hpGet hp c ep with
            | none => rw [hq] at h; cases h
            | some b => rw [hpGet_grown hg hq]; rw [hq] at h; exact h
          case part c ep off len =>
            simp only at h ⊢
            cases hq : hpGet hp c ep with
            | none => rw [hq] at h; cases h
            | some b => rw [hpGet_grown hg hq]; rw [hq] at h; exact h
        · cases h
    · cases h
  · cases h
theorem newVar_grown {te : TE} {T : TypeId} {cs : List SV} {e : Eff} (h : (newVar te hp d T cs).run = some e) : (newVar te hp' d T cs).run = some e := by
  unfold newVar at h ⊢
  split at h
  · cases h
  · split at h
    · cases h
    · rename_i hl
      rw [if_neg hl]
      simp only at h ⊢
      split at h
      · cases h
      · rename_i hf
        rw [fresh_grown hg, if_neg (fresh_isSome_grown hg hf)]
        exact h
theorem buildSlice_grown {te : TE} {T : TypeId} {len : Nat} {ps : List (Nat × SV)} {e : Eff} (h : (buildSlice te hp d T len ps).run = some e) : (buildSlice te hp' d T len ps).run = some e := by
  unfold buildSlice at h ⊢
  split at h
  · split at h
    · simp only at h ⊢
      split at h
      · cases h
      · rename_i hf
        rw [fresh_grown hg]
        rw [if_neg (by rintro (h1 | h1); exact fresh_isSome_grown hg (fun h2 => hf (.inl h2)) h1; exact hf (.inr h1))]
        split at h
        · split at h
          · rename_i xs hxs
            rw [mapM_grown (fun _ _ => pack_grown hg) hxs]
            exact h
          · cases h
        · cases h
    · cases h
  · cases h
theorem makeSlice_grown {te : TE} {T : TypeId} {l c : Int} {e : Eff} (h : (makeSlice te hp d T l c).run = some e) : (makeSlice te hp' d T l c).run = some e := by
  unfold makeSlice at h ⊢
  split at h
  · split at h
    · simp only at h ⊢
      split at h
      · cases h
      · rename_i hf
        rw [fresh_grown hg]
        rw [if_neg (by rintro (h1 | h1); exact fresh_isSome_grown hg (fun h2 => hf (.inl h2)) h1; exact hf (.inr h1))]
        exact h
    · cases h
  · cases h
end
end Sx
end Go.Proofs.Ytkedomfjjahjnaa

namespace Go.Proofs.Ytkedomfjjahjnaa
namespace Sx
open Go
def MonoOk (s : Summ) : Prop := ∀ (d : Nat) (args : List SV) (hp hp' : Hp) (out : Out), Grown d hp hp' → (s.f d args hp).run = some out → (s.f d args hp').run = some out
def EnvMono (Φ : Env) : Prop := ∀ f s, Φ f = some s → MonoOk s
theorem map_grown {α β : Type} {f : α → β} {x y : OT α} {z : β} (hxy : ∀ a, x.run = some a → y.run = some a) (h : (x.map f).run = some z) : (y.map f).run = some z := by
  obtain ⟨a, h1, rfl⟩ := OT.run_map h
  have := hxy a h1
  clear h h1 hxy
  induction y with
  | ok b => cases this; rfl
  | br b u v hu hv =>
    cases b
    · exact hv this
    · exact hu this
  | fail => cases this
theorem bytesConst_grown {te : TE} {d : Nat} {hp hp' : Hp} (hg : Grown d hp hp') {src dst : TypeId} {x : SV} {y : Nat × Nat × List UInt8} (h : bytesConst te hp src dst x = some y) : bytesConst te hp' src dst x = some y := by
  unfold bytesConst at h ⊢
  split at h
  · rename_i hs
    rw [if_pos hs]
    split at h
    · split at h
      · split at h
        · split at h
          · rename_i h3
            rw [hpGet_grown hg h3]
            exact h
          · cases h
        · cases h
      · cases h
    · cases h
  · cases h
theorem core_grown {te : TE} {Φ : Env} (hΦ : EnvMono Φ) {d : Nat} {hp hp' : Hp} (hg : Grown d hp hp') {ρ : Operand → SV} {op : Op} {out : Out} (h : (core te Φ hp d ρ op).run = some out) :
    (core te Φ hp' d ρ op).run = some out := by
  cases op <;> simp only [core] at h ⊢ <;> try (first | exact h | (cases h; done))
  case alloc T =>
    split at h
    · exact map_grown (fun _ => newVar_grown hg) h
    · cases h
  case box T x =>
    split at h
    · exact map_grown (fun _ => newVar_grown hg) h
    · cases h
  case buildSlice T len ps => exact map_grown (fun _ => buildSlice_grown hg) h
  case load T a =>
    split at h
    · exact map_grown (fun _ hq => map_grown (fun _ => loadCells_grown hg) hq) h
    · cases h
  case store T a x =>
    split at h
    · split at h
      · split at h
        · rename_i hl
          rw [if_pos hl]
          exact map_grown (fun _ => storeCells_grown hg) h
        · cases h
      · cases h
    · cases h
  case slice T x lo hi mx => exact map_grown (fun _ => sliceOp_grown hg) h
  case sliceToArrayPointer T x => exact map_grown (fun _ => arrayPtr_grown hg) h
  case indexAddr T x k =>
    split at h
    · exact map_grown (fun _ => indexAddr_grown hg) h
    · cases h
  case convert src dst x =>
    split at h
    · exact h
    · split at h
      · rename_i hs
        rw [bytesConst_grown hg hs]
        exact h
      · rename_i hs
        split
        · rename_i c e s hs'
          obtain ⟨_, _, hx, _, _⟩ := bytesConst_some hs'
          rw [hx] at h
          unfold convertS at h
          split at h <;> first | (cases h; done) | (split at h <;> first | (cases h; done) | skip)
          all_goals (rename_i he; simp_all)
        · exact h
  case makeSlice T l c =>
    split at h
    · exact map_grown (fun _ => makeSlice_grown hg) h
    · cases h
  case call c =>
    cases hc : c.callee <;> simp only [hc] at h ⊢ <;> try (cases h; done)
    case value f =>
      unfold callFn at h ⊢
      split at h
      · split at h
        · rename_i s hs
          exact hΦ _ _ hs _ _ _ _ _ hg h
        · cases h
      · cases h
    case invoke recv name =>
      unfold callMeth at h ⊢
      split at h
      · split at h
        · split at h
          · rename_i s hs
            exact hΦ _ _ hs _ _ _ _ _ hg h
          · cases h
        · cases h
      · cases h
    case builtin b =>
      cases b <;> simp only at h ⊢ <;> try (cases h; done)
      case len =>
        split at h
        · exact map_grown (fun _ => lenOp_grown hg) h
        · cases h
      case append =>
        split at h
        · split at h
          · rename_i hl
            rw [if_pos hl]
            exact map_grown (fun _ => appendOp_grown hg) h
          · cases h
        · cases h
      case copy =>
        split at h
        · exact map_grown (fun _ => copyOp_grown hg) h
        · cases h
      case max => exact h
def FreshEq (d : Nat) (hp hp' : Hp) : Prop := ∀ n, inBlk d n → (hp n = none ↔ hp' n = none)
theorem freshFrom_eq {d : Nat} {hp hp' : Hp} (hf : FreshEq d hp hp') : ∀ (n k : Nat), n + k ≤ 4000 → freshFrom hp' d n k = freshFrom hp d n k
  | 0, k, _ => rfl
  | n + 1, k, hk => by
    simp only [freshFrom]
    have hb : inBlk d ((d + 1) * 4096 + k) := by unfold inBlk; omega
    cases h : hp ((d + 1) * 4096 + k) with
    | none => rw [(hf _ hb).1 h]
    | some ch =>
      cases h' : hp' ((d + 1) * 4096 + k) with
      | none => rw [(hf _ hb).2 h'] at h; cases h
      | some ch' => exact freshFrom_eq hf n (k + 1) (by omega)
theorem fresh_eq {d : Nat} {hp hp' : Hp} (hf : FreshEq d hp hp') : fresh hp' d = fresh hp d := freshFrom_eq hf 4000 0 (by omega)
theorem isSome_eq {d : Nat} {hp hp' : Hp} (hf : FreshEq d hp hp') : (hp' (fresh hp d)).isSome = (hp (fresh hp d)).isSome := by
  have := hf _ (fresh_inBlk d hp)
  cases h : hp (fresh hp d) with
  | none => rw [this.1 h]
  | some ch =>
    cases h' : hp' (fresh hp d) with
    | none => rw [this.2 h'] at h; cases h
    | some ch' => rfl
theorem core_zero {te : TE} {Φ : Env} {d : Nat} {hp hp' : Hp} (hf : FreshEq d hp hp') {ρ : Operand → SV} {op : Op} (hk : kindOf Φ op = 0) :
    core te Φ hp' d ρ op = core te Φ hp d ρ op := by
  cases op <;> simp only [core] <;> (first | (exfalso; simp [kindOf] at hk; done) | skip)
  case convert src dst x =>
    have hne : ¬ Nat.beq src dst = true := fun e => by simp [kindOf, e] at hk
    have : ∀ hp, bytesConst te hp src dst (ρ x) = none := fun hp => by unfold bytesConst; rw [if_neg hne]
    rw [this, this]
  case alloc T =>
    split
    · congr 1
      unfold newVar
      rw [fresh_eq hf]
      simp only [isSome_eq hf]
    · rfl
  case makeSlice T l c =>
    split
    · congr 1
      unfold makeSlice
      rw [fresh_eq hf]
      simp only [isSome_eq hf]
    · rfl
  case call c =>
    cases hc : c.callee <;> (try simp only)
    case value f =>
      exfalso
      simp only [kindOf, hc] at hk
      cases f <;> simp only at hk <;> first | (cases hk; done) | skip
      split at hk
      · split at hk <;> cases hk
      · cases hk
    case invoke recv name =>
      exfalso
      simp only [kindOf, hc] at hk
      cases hk
    case builtin b =>
      cases b <;> (try simp only) <;> (simp only [kindOf, hc] at hk; try (cases hk; done))
theorem core_congr {te : TE} {Φ : Env} {d : Nat} {hp : Hp} {ρ ρ' : Operand → SV} {op : Op} (h : ∀ x ∈ op.operands, ρ x = ρ' x) : core te Φ hp d ρ op = core te Φ hp d ρ' op := by
  have pairs : ∀ ps : Array (Nat × Operand), (∀ x ∈ (ps.toList.map (·.2)).toArray, ρ x = ρ' x) → (ps.toList.map fun p => (p.1, ρ p.2)) = (ps.toList.map fun p => (p.1, ρ' p.2)) := fun ps hp =>
    List.map_congr_left fun p hm => by
      rw [hp p.2 (by simpa using ⟨p.1, by simpa using hm⟩)]
  cases op <;> simp only [Op.operands] at h <;> simp only [core]
  case build t ps => rw [pairs ps h]
  case buildSlice t n ps => rw [pairs ps h]
  case makeFunc f first caps =>
    rw [List.map_congr_left (l := first.toList) fun x hx => h x (by simp at hx; simp [hx]), List.map_congr_left (l := caps.toList) fun x hx => h x (by simp at hx; simp [hx])]
  case call c =>
    have hargs : c.args.toList.map ρ = c.args.toList.map ρ' := List.map_congr_left fun x hx => h x (by simp at hx; simp [Call.operands, hx])
    have harr : ∀ x ∈ c.args.toList, ρ x = ρ' x := fun x hx => h x (by simp at hx; simp [Call.operands, hx])
    cases hc : c.callee <;> (try simp only)
    case value f =>
      have hf : ρ f = ρ' f := h f (by simp [Call.operands, hc])
      rw [hargs, hf]
    case invoke recv name =>
      have hf : ρ recv = ρ' recv := h recv (by simp [Call.operands, hc])
      rw [hargs, hf]
    case builtin b =>
      cases b <;> (try simp only)
      all_goals (
        rcases ha : c.args.toList with _ | ⟨x, _ | ⟨y, _ | ⟨z, r⟩⟩⟩ <;> rcases hT : c.argTypes.toList with _ | ⟨T, _ | ⟨T', _ | ⟨T'', r'⟩⟩⟩ <;>
          first
          | rfl
          | (have hx := harr x (by rw [ha]; simp); simp only [hx]; done)
          | (have hx := harr x (by rw [ha]; simp); have hy := harr y (by rw [ha]; simp); simp only [hx, hy]; done))
  case slice t x lo hi mx => cases lo <;> cases hi <;> cases mx <;> simp_all
  all_goals (first | rfl | (simp_all; done))
end Sx
end Go.Proofs.Ytkedomfjjahjnaa

namespace Go.Proofs.Ytkedomfjjahjnaa
namespace Sx
open Go
def namesOf (u : List (Nat × Ch)) : List Nat := u.map (·.1)
theorem putHp_congr {m : Nat} : ∀ (u : List (Nat × Ch)) {hp hp' : Hp}, hp m = hp' m → putHp hp u m = putHp hp' u m
  | [], _, _, h => h
  | (c, ch) :: r, hp, hp', h => putHp_congr r (by show (if m = c then some ch else hp m) = (if m = c then some ch else hp' m); rw [h])
theorem putHp_not {m : Nat} : ∀ (u : List (Nat × Ch)) {hp : Hp}, m ∉ namesOf u → putHp hp u m = hp m
  | [], _, _ => rfl
  | (c, ch) :: r, hp, h => by
    have h1 : m ≠ c := fun e => h (by simp [namesOf, e])
    have h2 : m ∉ namesOf r := fun e => h (by simp only [namesOf, List.map_cons, List.mem_cons]; exact .inr e)
    simp only [putHp]
    rw [putHp_not r h2]
    simp [h1]
theorem putHp_in {m : Nat} : ∀ (u : List (Nat × Ch)) {hp hp' : Hp}, m ∈ namesOf u → putHp hp u m = putHp hp' u m
  | [], _, _, h => by simp [namesOf] at h
  | (c, ch) :: r, hp, hp', h => by
    by_cases h2 : m ∈ namesOf r
    · exact putHp_in r h2
    · have h1 : m = c := by
        simp only [namesOf, List.map_cons, List.mem_cons] at h
        exact h.resolve_right h2
      simp only [putHp]
      rw [putHp_not r h2, putHp_not r h2]
      simp [h1]
theorem putHp_some {m : Nat} : ∀ (u : List (Nat × Ch)) {hp : Hp}, hp m ≠ none → putHp hp u m ≠ none
  | [], _, h => h
  | (c, ch) :: r, hp, h => putHp_some r (by
    show (if m = c then some ch else hp m) ≠ none
    split
    · simp
    · exact h)
theorem put_comm {s : St} {d d' : Option Tmp} {e e' : Eff} (hd : ∀ t, d = some t → d' ≠ some t) (hn : ∀ m, m ∈ namesOf e.upd → m ∉ namesOf e'.upd) : (s.put d e).put d' e' = (s.put d' e').put d e := by
  unfold St.put
  congr 1
  · cases d with
    | none => rfl
    | some t =>
      cases d' with
      | none => rfl
      | some t' =>
        simp only [putTm]
        exact List.set_comm _ _ (fun h => hd t rfl (by rw [h]))
  · funext m
    simp only
    by_cases h' : m ∈ namesOf e'.upd
    · have h : m ∉ namesOf e.upd := fun h => hn m h h'
      rw [putHp_in e'.upd (hp' := s.hp) h', putHp_not e.upd h]
    · rw [putHp_not e'.upd h']
      exact putHp_congr _ (putHp_not e'.upd h').symm
theorem foldOn_len (st : St) (D : Nat → Bool) : ∀ (F : Done), (foldOn st D F).tm.length = st.tm.length
  | [] => rfl
  | x :: r => by
    simp only [foldOn]
    cases D x.1
    · exact foldOn_len st D r
    · simp only [cond_true, St.put]
      unfold putTm
      split <;> simp [foldOn_len st D r]
theorem foldOn_congr {st : St} {D D' : Nat → Bool} : ∀ {F : Done}, (∀ x ∈ F, D x.1 = D' x.1) → foldOn st D F = foldOn st D' F
  | [], _ => rfl
  | x :: r, h => by
    simp only [foldOn]
    rw [h x (by simp), foldOn_congr (F := r) fun y hy => h y (by simp [hy])]
theorem foldOn_hp {st : St} {D D' : Nat → Bool} {m : Nat} : ∀ {F : Done}, (∀ x ∈ F, D' x.1 = true → D x.1 = true) → (∀ x ∈ F, D x.1 = true → D' x.1 = false → m ∉ namesOf x.2.2.upd) →
    (foldOn st D F).hp m = (foldOn st D' F).hp m
  | [], _, _ => rfl
  | x :: r, h1, h2 => by
    have ih := foldOn_hp (st := st) (D := D) (D' := D') (m := m) (F := r) (fun y hy => h1 y (by simp [hy])) (fun y hy => h2 y (by simp [hy]))
    simp only [foldOn]
    cases hd' : D' x.1
    · cases hd : D x.1
      · exact ih
      · simp only [cond_true, cond_false, St.put]
        rw [putHp_not _ (h2 x (by simp) hd hd')]
        exact ih
    · rw [h1 x (by simp) hd']
      simp only [cond_true, St.put]
      exact putHp_congr _ ih
theorem putTm_get {st : St} {dst : Option Tmp} {v : SV} {t : Nat} (h : dst ≠ some t) : (putTm st dst v).getD t .junk = st.tm.getD t .junk := by
  cases dst with
  | none => rfl
  | some d =>
    have : d ≠ t := fun e => h (by rw [e])
    simp [putTm, List.getD_eq_getElem?_getD, List.getElem?_set_ne this]
theorem putTm_same {st st' : St} {dst : Option Tmp} {v : SV} {t : Nat} (hl : st.tm.length = st'.tm.length) (h : st.tm.getD t .junk = st'.tm.getD t .junk) : (putTm st dst v).getD t .junk = (putTm st' dst v).getD t .junk := by
  cases dst with
  | none => exact h
  | some d =>
    by_cases e : d = t
    · subst e
      simp only [putTm, List.getD_eq_getElem?_getD, List.getElem?_set, if_true, hl]
    · rw [putTm_get (by simpa using e), putTm_get (by simpa using e)]
      exact h
theorem foldOn_tm {st : St} {D D' : Nat → Bool} {t : Nat} : ∀ {F : Done}, (∀ x ∈ F, D' x.1 = true → D x.1 = true) → (∀ x ∈ F, D x.1 = true → D' x.1 = false → x.2.1.dst ≠ some t) →
    (foldOn st D F).tm.getD t .junk = (foldOn st D' F).tm.getD t .junk
  | [], _, _ => rfl
  | x :: r, h1, h2 => by
    have ih := foldOn_tm (st := st) (D := D) (D' := D') (t := t) (F := r) (fun y hy => h1 y (by simp [hy])) (fun y hy => h2 y (by simp [hy]))
    simp only [foldOn]
    cases hd' : D' x.1
    · cases hd : D x.1
      · exact ih
      · simp only [cond_true, cond_false, St.put]
        rw [putTm_get (h2 x (by simp) hd hd')]
        exact ih
    · rw [h1 x (by simp) hd']
      simp only [cond_true, St.put]
      exact putTm_same (by rw [foldOn_len, foldOn_len]) ih
theorem foldOn_insert {st : St} {D : Nat → Bool} {i : Nat} {o : Oper} {e : Eff} : ∀ {F : Done}, (i, o, e) ∈ F → (∀ x ∈ F, x.1 = i → x = (i, o, e)) → F.Pairwise (fun x y => y.1 < x.1) → D i = false →
    (∀ x ∈ F, D x.1 = true → i < x.1 → (∀ t, o.dst = some t → x.2.1.dst ≠ some t) ∧ ∀ m, m ∈ namesOf e.upd → m ∉ namesOf x.2.2.upd) →
    foldOn st (fun k => D k || Nat.beq k i) F = (foldOn st D F).put o.dst e
  | [], hm, _, _, _, _ => by cases hm
  | x :: r, hm, hu, hp, hD, hc => by
    have hp' := List.pairwise_cons.1 hp
    simp only [foldOn]
    by_cases hx : x.1 = i
    · have := hu x (by simp) hx
      subst this
      simp only [hD, Bool.false_or, Nat.beq_refl, cond_true, cond_false]
      congr 1
      exact foldOn_congr fun y hy => by
        have : y.1 ≠ i := Nat.ne_of_lt (hp'.1 y hy)
        simp [this]
    · have hmr : (i, o, e) ∈ r := by
        rcases List.mem_cons.1 hm with h | h
        · exact absurd (by rw [← h]) hx
        · exact h
      have hlt : i < x.1 := hp'.1 _ hmr
      have ih := foldOn_insert (st := st) (F := r) hmr (fun y hy => hu y (by simp [hy])) hp'.2 hD (fun y hy => hc y (by simp [hy]))
      have hb : Nat.beq x.1 i = false := by
        cases hq : Nat.beq x.1 i
        · rfl
        · exact absurd (Nat.eq_of_beq_eq_true hq) hx
      simp only [hb, Bool.or_false]
      cases hd : D x.1
      · exact ih
      · simp only [cond_true]
        obtain ⟨c1, c2⟩ := hc x (by simp) hd hlt
        rw [ih, put_comm c1 c2]
end Sx
end Go.Proofs.Ytkedomfjjahjnaa

namespace Go.Proofs.Ytkedomfjjahjnaa
namespace Sx
open Go
section
variable {te : TE} {Φ : Env} {ops : Array Oper} {bs : Array Nat} {H : Hid} {st : St}
structure GoodOp (te : TE) (Φ : Env) (ops : Array Oper) (bs : Array Nat) (H : Hid) (st : St) (r : Done) (i : Nat) (o : Oper) (e : Eff) : Prop where
  run : ∃ b, guarded ops.toList (foldOn st (preOf bs i) r).tm o = some b ∧
    (b = true → (core te Φ (hide (hid H i) (foldOn st (preOf bs i) r).hp) (slotOf i o) (foldOn st (preOf bs i) r).eval o.op).run = some (.ret e) ∧ hidOk H i o e.upd = true) ∧ (b = false → e = ⟨.undef, []⟩)
  upd : updOk Φ bs ops.toList st i o r e.upd = true
def Good (te : TE) (Φ : Env) (ops : Array Oper) (bs : Array Nat) (H : Hid) (st : St) : Done → Prop
  | [] => True
  | x :: r => x.1 = r.length ∧ ops[r.length]? = some x.2.1 ∧ GoodOp te Φ ops bs H st r x.1 x.2.1 x.2.2 ∧ Good te Φ ops bs H st r
theorem walk_good {K : SE → St → Prop} : ∀ (l : List Oper) (done : Done), Good te Φ ops bs H st done → (∀ k, l[k]? = ops[done.length + k]?) → wregionAny te Φ ops.toList bs H K st done.length l done →
    ∃ F, Good te Φ ops bs H st F ∧ F.length = done.length + l.length ∧ K .normal (foldOn st (fun _ => true) F)
  | [], done, hg, _, h => ⟨done, hg, rfl, h⟩
  | o :: r, done, hg, hl, h => by
    have ho : ops[done.length]? = some o := by have := hl 0; simpa using this.symm
    have hl' : ∀ k, r[k]? = ops[done.length + 1 + k]? := fun k => by
      have := hl (k + 1)
      rw [List.getElem?_cons_succ] at this
      rw [this]
      congr 1
      omega
    simp only [wregionAny] at h
    split at h
    · exact h.elim
    · rename_i b hb
      cases b
      · simp only [cond_false] at h
        obtain ⟨F, h1, h2, h3⟩ := walk_good r ((done.length, o, ⟨.undef, []⟩) :: done) ⟨rfl, ho, ⟨⟨_, hb, (fun h => by cases h), fun _ => rfl⟩, rfl⟩, hg⟩ hl' h
        exact ⟨F, h1, by rw [h2]; simp only [List.length_cons]; omega, h3⟩
      · simp only [cond_true] at h
        obtain ⟨out, h1, h2⟩ := OT.wp_run h
        cases out with
        | pan v u => exact h2.elim
        | ret e =>
          simp only at h2
          cases hu : updOk Φ bs ops.toList st done.length o done e.upd
          · rw [hu] at h2; exact h2.elim
          · cases hv : hidOk H done.length o e.upd
            · rw [hu, hv] at h2; exact h2.elim
            rw [hu, hv] at h2
            obtain ⟨F, h4, h5, h6⟩ := walk_good r ((done.length, o, e) :: done) ⟨rfl, ho, ⟨⟨_, hb, (fun _ => ⟨h1, hv⟩), fun h => by cases h⟩, hu⟩, hg⟩ hl' h2
            exact ⟨F, h4, by rw [h5]; simp only [List.length_cons]; omega, h6⟩
theorem Good.mem : ∀ {F : Done}, Good te Φ ops bs H st F → ∀ x ∈ F, x.1 < F.length ∧ ops[x.1]? = some x.2.1
  | [], _, x, hx => by cases hx
  | y :: r, hg, x, hx => by
    rcases List.mem_cons.1 hx with h | h
    · subst h
      exact ⟨by rw [hg.1]; simp, by rw [hg.1]; exact hg.2.1⟩
    · obtain ⟨h1, h2⟩ := Good.mem hg.2.2.2 x h
      exact ⟨by simp only [List.length_cons]; omega, h2⟩
theorem Good.pairwise : ∀ {F : Done}, Good te Φ ops bs H st F → F.Pairwise (fun x y => y.1 < x.1)
  | [], _ => List.Pairwise.nil
  | y :: r, hg => List.pairwise_cons.2 ⟨fun x hx => by rw [hg.1]; exact (Good.mem hg.2.2.2 x hx).1, Good.pairwise hg.2.2.2⟩
theorem Good.uniq : ∀ {F : Done}, Good te Φ ops bs H st F → ∀ x ∈ F, ∀ y ∈ F, x.1 = y.1 → x = y
  | [], _, x, hx, _, _, _ => by cases hx
  | z :: r, hg, x, hx, y, hy, he => by
    rcases List.mem_cons.1 hx with h | h <;> rcases List.mem_cons.1 hy with h' | h'
    · rw [h, h']
    · have := (Good.mem hg.2.2.2 y h').1
      rw [h, hg.1] at he
      omega
    · have := (Good.mem hg.2.2.2 x h).1
      rw [h', hg.1] at he
      omega
    · exact Good.uniq hg.2.2.2 x h y h' he
theorem Good.at : ∀ {F : Done}, Good te Φ ops bs H st F → ∀ i, i < F.length → ∃ o e r, (i, o, e) ∈ F ∧ (∀ y ∈ r, y ∈ F) ∧ r.length = i ∧ (∀ D : Nat → Bool, (∀ k, i ≤ k → D k = false) → foldOn st D F = foldOn st D r) ∧ Good te Φ ops bs H st r ∧ GoodOp te Φ ops bs H st r i o e
  | [], _, i, h => by simp at h
  | y :: r, hg, i, h => by
    by_cases hi : i = r.length
    · subst hi
      have h1 : y.1 = r.length := hg.1
      refine ⟨y.2.1, y.2.2, r, ?_, fun z hz => by simp [hz], rfl, fun D hD => ?_, hg.2.2.2, ?_⟩
      · rw [← h1]; simp
      · simp only [foldOn]
        rw [hD y.1 (by rw [h1]; omega)]
        rfl
      · have := hg.2.2.1
        rw [h1] at this
        exact this
    · have hlt : i < r.length := by simp only [List.length_cons] at h; omega
      obtain ⟨o, e, r', h1, h2, h3, h4, h5, h6⟩ := Good.at hg.2.2.2 i hlt
      refine ⟨o, e, r', by simp [h1], fun z hz => by simp [h2 z hz], h3, fun D hD => ?_, h5, h6⟩
      simp only [foldOn]
      rw [hD y.1 (by rw [hg.1]; omega)]
      exact h4 D hD
theorem inBlk_of {d n : Nat} (h : inBlkB d n = true) : inBlk d n := Nat.eq_of_beq_eq_true h
theorem Good.names : ∀ {F : Done}, Good te Φ ops bs H st F → ∀ x ∈ F, ∀ m ∈ namesOf x.2.2.upd, (inBlk (slotOf x.1 x.2.1) m ∧ st.hp m = none) ∨
    (kindOf Φ x.2.1.op = 2 ∧ (st.hp m ≠ none ∨ ∃ y ∈ F, preOf bs x.1 y.1 = true ∧ inBlk (slotOf y.1 y.2.1) m ∧ y.2.2.upd ≠ []))
  | [], _, x, hx, _, _ => by cases hx
  | z :: r, hg, x, hx, m, hm => by
    rcases List.mem_cons.1 hx with h | h
    · subst h
      obtain ⟨c, hc, rfl⟩ := List.mem_map.1 hm
      have hu := hg.2.2.1.upd
      unfold updOk at hu
      have hne : x.2.2.upd.isEmpty = false := by
        cases hq : x.2.2.upd with
        | nil => rw [hq] at hc; cases hc
        | cons => rfl
      rw [hne, Bool.false_or, Bool.and_eq_true, List.all_eq_true, List.all_eq_true] at hu
      have h1 := hu.2 c hc
      simp only [Bool.or_eq_true, Bool.and_eq_true, Option.isNone_iff_eq_none, List.any_eq_true, Bool.not_eq_true'] at h1
      rcases h1 with ⟨h1, h2⟩ | ⟨h1, h2⟩
      · exact .inl ⟨inBlk_of h1, h2⟩
      · refine .inr ⟨Nat.eq_of_beq_eq_true h1, ?_⟩
        rcases h2 with h2 | ⟨y, hy, ⟨h3, h4⟩, h5⟩
        · exact .inl fun hq => by rw [hq] at h2; cases h2
        · exact .inr ⟨y, by simp [hy], h3, inBlk_of h4, fun hq => by rw [hq] at h5; cases h5⟩
    · rcases Good.names hg.2.2.2 x h m hm with h1 | ⟨h1, h2 | ⟨y, hy, h3⟩⟩
      · exact .inl h1
      · exact .inr ⟨h1, .inl h2⟩
      · exact .inr ⟨h1, .inr ⟨y, by simp [hy], h3⟩⟩
theorem getD_of_some {o : Oper} {i : Nat} (h : ops[i]? = some o) : ops.getD i default = o := by
  rw [Array.getD_eq_getD_getElem?, h]; rfl
theorem listGetD_of_some {o : Oper} {i : Nat} (h : ops[i]? = some o) : ops.toList.getD i default = o := by
  rw [List.getD_eq_getElem?_getD, Array.getElem?_toList, h]; rfl
theorem Good.own : ∀ {F : Done}, Good te Φ ops bs H st F → ∀ x ∈ F, x.2.2.upd ≠ [] → ∀ (k : Nat) (o : Oper), ops[k]? = some o → k ≠ x.1 → slotOf k o ≠ slotOf x.1 x.2.1
  | [], _, x, hx, _, _, _, _, _ => by cases hx
  | z :: r, hg, x, hx, hne, k, o, hk, hkx => by
    rcases List.mem_cons.1 hx with h | h
    · subst h
      have hu := hg.2.2.1.upd
      unfold updOk at hu
      have hne : x.2.2.upd.isEmpty = false := by
        cases hq : x.2.2.upd with
        | nil => exact absurd hq hne
        | cons => rfl
      rw [hne, Bool.false_or, Bool.and_eq_true, List.all_eq_true, List.all_eq_true] at hu
      have hlt : k < ops.size := by
        rcases Nat.lt_or_ge k ops.size with h' | h'
        · exact h'
        · rw [Array.getElem?_eq_none h'] at hk; cases hk
      have h1 := hu.1 k (by simpa using hlt)
      rw [listGetD_of_some hk] at h1
      simp only [Bool.or_eq_true, Bool.not_eq_true'] at h1
      rcases h1 with h1 | h1
      · exact absurd (Nat.eq_of_beq_eq_true h1) hkx
      · intro he
        rw [he, Nat.beq_refl] at h1
        cases h1
    · exact Good.own hg.2.2.2 x h hne k o hk hkx
def Closed (bs : Array Nat) (n : Nat) (D : Nat → Bool) : Prop := ∀ k, k < n → D k = true → ∀ l, preOf bs k l = true → D l = true
theorem Good.origin {F : Done} (hF : Good te Φ ops bs H st F) {D : Nat → Bool} (hD : Closed bs F.length D) {m : Nat} (hm : st.hp m = none) : ∀ (L : Done), (∀ x ∈ L, x ∈ F) → (foldOn st D L).hp m ≠ none →
    ∃ y ∈ F, D y.1 = true ∧ inBlk (slotOf y.1 y.2.1) m ∧ y.2.2.upd ≠ []
  | [], _, h => absurd hm h
  | x :: r, hL, h => by
    have ih := Good.origin hF hD hm r (fun y hy => hL y (by simp [hy]))
    simp only [foldOn] at h
    cases hd : D x.1
    · rw [hd] at h; exact ih h
    · rw [hd] at h
      simp only [cond_true, St.put] at h
      by_cases hn : m ∈ namesOf x.2.2.upd
      · have hx := hL x (by simp)
        rcases hF.names x hx m hn with ⟨h1, _⟩ | ⟨_, h1 | ⟨y, hy, h2, h3, h4⟩⟩
        · exact ⟨x, hx, hd, h1, fun hq => by rw [hq] at hn; simp [namesOf] at hn⟩
        · exact absurd hm h1
        · exact ⟨y, hy, hD x.1 (hF.mem x hx).1 hd _ h2, h3, h4⟩
      · rw [putHp_not _ hn] at h
        exact ih h
theorem foldOn_some {D : Nat → Bool} {m : Nat} (hm : st.hp m ≠ none) : ∀ (L : Done), (foldOn st D L).hp m ≠ none
  | [] => hm
  | x :: r => by
    have ih := foldOn_some (D := D) hm r
    simp only [foldOn]
    cases D x.1
    · exact ih
    · exact putHp_some _ ih
end
end Sx
end Go.Proofs.Ytkedomfjjahjnaa

namespace Go.Proofs.Ytkedomfjjahjnaa
namespace Sx
open Go
theorem blt_of {a b : Nat} (h : Nat.blt a b = true) : a < b := Nat.le_of_ble_eq_true h
theorem blt_to {a b : Nat} (h : a < b) : Nat.blt a b = true := Nat.ble_eq_true_of_le h
section
variable {te : TE} {Φ : Env} {ops : Array Oper} {bs : Array Nat} {H : Hid} {st : St}
structure Beside (Φ : Env) (ops : Array Oper) (i j : Nat) (x y : Oper) : Prop where
  xy : ∀ d, x.dst = some d → d ∉ y.looksAt ops
  dd : ∀ d, x.dst = some d → y.dst ≠ some d
  yx : ∀ d, y.dst = some d → d ∉ x.looksAt ops
  slot : slotOf i x ≠ slotOf j y
theorem Beside.symm {i j : Nat} {x y : Oper} (h : Beside Φ ops i j x y) : Beside Φ ops j i y x :=
  ⟨h.yx, fun d hd he => h.dd d he hd, h.xy, fun e => h.slot e.symm⟩
theorem not_beq {a b : Nat} (h : Nat.beq a b = false) : a ≠ b := fun e => by
  subst e
  rw [Nat.beq_refl] at h
  cases h
theorem beside_lt (hok : regionOk Φ ops bs = true) {i j : Nat} {x y : Oper} (hx : ops[i]? = some x) (hy : ops[j]? = some y) (hij : i < j) (h : preOf bs j i = false) : Beside Φ ops i j x y := by
  have hj : j < ops.size := by
    rcases Nat.lt_or_ge j ops.size with h' | h'
    · exact h'
    · rw [Array.getElem?_eq_none h'] at hy; cases hy
  unfold regionOk at hok
  rw [List.all_eq_true] at hok
  have h1 := hok j (by simpa using hj)
  rw [Bool.and_eq_true, List.all_eq_true] at h1
  have h2 := h1.2 i (by simpa using hij)
  unfold pairOk at h2
  simp only [getD_of_some hx, getD_of_some hy, h, Bool.false_or, Bool.and_eq_true, Bool.not_eq_true'] at h2
  obtain ⟨h3, h4⟩ := h2
  obtain ⟨a1, a2, a3⟩ := Oper.apart_spec h3
  exact ⟨a1, a2, a3, not_beq h4⟩
theorem clash_lt {i j : Nat} {x y : Oper} (hx : ops[i]? = some x) (hy : ops[j]? = some y) (hij : i < j) (h : preOf bs j i = false) (hk : (kindOf Φ x.op = 2 ∧ kindOf Φ y.op ≠ 0) ∨ (kindOf Φ y.op = 2 ∧ kindOf Φ x.op ≠ 0)) : (i, j) ∈ clashes Φ ops bs := by
  have hj : j < ops.size := by
    rcases Nat.lt_or_ge j ops.size with h' | h'
    · exact h'
    · rw [Array.getElem?_eq_none h'] at hy; cases hy
  unfold clashes
  refine List.mem_flatMap.2 ⟨j, by simpa using hj, List.mem_flatMap.2 ⟨i, by simpa using hij, ?_⟩⟩
  have : clashB Φ ops bs i j = true := by
    unfold clashB
    simp only [getD_of_some hx, getD_of_some hy, h, Bool.not_false, Bool.true_and, Bool.or_eq_true, Bool.and_eq_true, Bool.not_eq_true']
    have nb : ∀ {n : Nat}, n ≠ 0 → Nat.beq n 0 = false := fun {n} h => by
      cases hq : Nat.beq n 0
      · rfl
      · exact absurd (Nat.eq_of_beq_eq_true hq) h
    exact hk.imp (fun ⟨a, b⟩ => ⟨by rw [a]; rfl, nb b⟩) fun ⟨a, b⟩ => ⟨by rw [a]; rfl, nb b⟩
  rw [this]
  exact List.mem_singleton.2 rfl
theorem hid_of (hH : H.1 = clashes Φ ops bs) {i j : Nat} {x y : Oper} (hx : ops[i]? = some x) (hy : ops[j]? = some y) (hij : i ≠ j) (h : preOf bs j i = false) (h' : preOf bs i j = false) (hk : (kindOf Φ x.op = 2 ∧ kindOf Φ y.op ≠ 0) ∨ (kindOf Φ y.op = 2 ∧ kindOf Φ x.op ≠ 0)) :
    hasClash H i = true ∧ hasClash H j = true ∧ (∀ n ∈ H.2.getD j [], n ∈ hid H i) ∧ (∀ n ∈ H.2.getD i [], n ∈ hid H j) := by
  have nb : ∀ {a b : Nat}, a ≠ b → Nat.beq a b = false := fun {a b} h => by
    cases hq : Nat.beq a b
    · rfl
    · exact absurd (Nat.eq_of_beq_eq_true hq) h
  unfold hasClash hid
  rw [hH]
  rcases Nat.lt_or_gt_of_ne hij with hlt | hlt
  · have hm := clash_lt hx hy hlt h hk
    refine ⟨List.any_eq_true.2 ⟨_, hm, by simp⟩, List.any_eq_true.2 ⟨_, hm, by simp⟩, fun n hn => List.mem_flatMap.2 ⟨_, hm, ?_⟩, fun n hn => List.mem_flatMap.2 ⟨_, hm, ?_⟩⟩
    · simp only [Nat.beq_refl, cond_true]
      exact hn
    · simp only [nb hij, Nat.beq_refl, cond_true, cond_false]
      exact hn
  · have hm := clash_lt hy hx hlt h' hk.symm
    refine ⟨List.any_eq_true.2 ⟨_, hm, by simp⟩, List.any_eq_true.2 ⟨_, hm, by simp⟩, fun n hn => List.mem_flatMap.2 ⟨_, hm, ?_⟩, fun n hn => List.mem_flatMap.2 ⟨_, hm, ?_⟩⟩
    · simp only [nb (Ne.symm hij), Nat.beq_refl, cond_true, cond_false]
      exact hn
    · simp only [Nat.beq_refl, cond_true]
      exact hn
theorem hide_some {R : List Nat} {hp : Hp} {n : Nat} {ch : Ch} (h : hide R hp n = some ch) : n ∉ R ∧ hp n = some ch := by
  cases R with
  | nil => exact ⟨by simp, h⟩
  | cons a r =>
    have h : cond ((a :: r).any fun m => Nat.beq m n) none (hp n) = some ch := h
    cases hq : (a :: r).any fun m => Nat.beq m n
    · rw [hq] at h
      refine ⟨fun hm => ?_, h⟩
      have := List.any_eq_false.1 hq n hm
      rw [Nat.beq_refl] at this
      exact this rfl
    · rw [hq] at h
      cases h
theorem hide_not {R : List Nat} {hp : Hp} {n : Nat} (h : n ∉ R) : hide R hp n = hp n := by
  cases R with
  | nil => rfl
  | cons a r =>
    show cond ((a :: r).any fun m => Nat.beq m n) none (hp n) = hp n
    have : ((a :: r).any fun m => Nat.beq m n) = false := List.any_eq_false.2 fun m hm hq => h (by rw [← Nat.eq_of_beq_eq_true hq]; exact hm)
    rw [this]
    rfl
theorem hid_clash {i n : Nat} (h : n ∈ hid H i) : hasClash H i = true := by
  unfold hid at h
  obtain ⟨p, hp, h⟩ := List.mem_flatMap.1 h
  refine List.any_eq_true.2 ⟨p, hp, ?_⟩
  cases h1 : Nat.beq p.1 i
  · cases h2 : Nat.beq p.2 i
    · rw [h1, h2] at h; cases h
    · rfl
  · rfl
theorem hidOk_parts {i : Nat} {o : Oper} {u : List (Nat × Ch)} (h : hidOk H i o u = true) (hc : hasClash H i = true) :
    (∀ m ∈ namesOf u, m ∈ H.2.getD i [] ∧ m ∉ hid H i) ∧ ∀ n ∈ hid H i, ¬ inBlk (slotOf i o) n := by
  unfold hidOk at h
  rw [hc, Bool.not_true, Bool.false_or, Bool.and_eq_true, List.all_eq_true, List.all_eq_true] at h
  refine ⟨fun m hm => ?_, fun n hn hb => ?_⟩
  · obtain ⟨c, hc, rfl⟩ := List.mem_map.1 hm
    have h1 := h.1 c hc
    rw [Bool.and_eq_true, List.any_eq_true, Bool.not_eq_true'] at h1
    obtain ⟨⟨k, hk, he⟩, h2⟩ := h1
    refine ⟨by rw [← Nat.eq_of_beq_eq_true he]; exact hk, fun hm => ?_⟩
    have := List.any_eq_false.1 h2 c.1 hm
    rw [Nat.beq_refl] at this
    exact this rfl
  · have h1 := h.2 n hn
    rw [Bool.not_eq_true'] at h1
    unfold inBlk at hb
    unfold inBlkB at h1
    rw [hb, Nat.beq_refl] at h1
    cases h1
theorem Good.hid : ∀ {F : Done}, Good te Φ ops bs H st F → ∀ x ∈ F, x.2.2.upd ≠ [] → hidOk H x.1 x.2.1 x.2.2.upd = true
  | [], _, x, hx, _ => by cases hx
  | z :: r, hg, x, hx, hne => by
    rcases List.mem_cons.1 hx with h | h
    · subst h
      obtain ⟨b, h1, h2, h3⟩ := hg.2.2.1.run
      cases b
      · rw [h3 rfl] at hne
        exact absurd rfl hne
      · exact (h2 rfl).2
    · exact Good.hid hg.2.2.2 x h hne
theorem beside (hok : regionOk Φ ops bs = true) {i j : Nat} {x y : Oper} (hx : ops[i]? = some x) (hy : ops[j]? = some y) (hij : i ≠ j) (h : preOf bs j i = false) (h' : preOf bs i j = false) : Beside Φ ops i j x y := by
  rcases Nat.lt_or_gt_of_ne hij with hlt | hlt
  · exact beside_lt hok hx hy hlt h
  · exact (beside_lt hok hy hx hlt h').symm
theorem bits_of (hok : regionOk Φ ops bs = true) {i : Nat} {o : Oper} (ho : ops[i]? = some o) :
    (∀ e ∈ o.after, Region.binds .any e = true → e.on < i ∧ preOf bs i e.on = true) ∧
    ∀ k, preOf bs i k = true → (∀ l, preOf bs k l = true → preOf bs i l = true) ∧ ∃ e ∈ o.after, Region.binds .any e = true ∧ (e.on = k ∨ preOf bs e.on k = true) := by
  have hi : i < ops.size := by
    rcases Nat.lt_or_ge i ops.size with h' | h'
    · exact h'
    · rw [Array.getElem?_eq_none h'] at ho; cases ho
  unfold regionOk at hok
  rw [List.all_eq_true] at hok
  have h1 := hok i (by simpa using hi)
  rw [Bool.and_eq_true] at h1
  have h2 := h1.1
  unfold bitsOk at h2
  rw [Bool.and_eq_true, getD_of_some ho, Array.all_eq_true_iff_forall_mem, List.all_eq_true] at h2
  refine ⟨fun e he hb => ?_, fun k hk => ?_⟩
  · have h3 := h2.1 e he
    rw [hb] at h3
    simp only [Bool.not_true, Bool.false_or, Bool.and_eq_true] at h3
    exact ⟨blt_of h3.1, by unfold preOf; rw [h3.1, h3.2]; rfl⟩
  · unfold preOf at hk
    rw [Bool.and_eq_true] at hk
    have h3 := h2.2 k (by simpa using blt_of hk.1)
    rw [hk.2] at h3
    simp only [Bool.not_true, Bool.false_or, Bool.and_eq_true] at h3
    refine ⟨fun l hl => ?_, ?_⟩
    · unfold preOf at hl ⊢
      rw [Bool.and_eq_true] at hl ⊢
      refine ⟨blt_to (Nat.lt_trans (blt_of hl.1) (blt_of hk.1)), ?_⟩
      have h4 := Nat.eq_of_beq_eq_true h3.1
      have h5 := hl.2
      rw [← h4, Nat.testBit_and, Bool.and_eq_true] at h5
      exact h5.2
    · obtain ⟨e, he, h4⟩ := Array.any_eq_true'.1 h3.2
      rw [Bool.and_eq_true, Bool.or_eq_true] at h4
      exact ⟨e, he, h4.1, h4.2.imp Nat.eq_of_beq_eq_true id⟩
theorem closed_pre (hok : regionOk Φ ops bs = true) {n i : Nat} (hi : i < ops.size) : Closed bs n (preOf bs i) := fun k _ hk l hl =>
  ((bits_of hok (Array.getElem?_eq_getElem hi)).2 k hk).1 l hl
structure At (te : TE) (Φ : Env) (ops : Array Oper) (bs : Array Nat) (st : St) (F : Done) (D : Nat → Bool) (i : Nat) (o : Oper) (e : Eff) : Prop where
  guard : ∃ b, guarded ops.toList (foldOn st D F).tm o = some b ∧ (b = true → (core te Φ (foldOn st D F).hp (slotOf i o) (foldOn st D F).eval o.op).run = some (.ret e)) ∧ (b = false → e = ⟨.undef, []⟩)
  put : foldOn st (fun k => D k || Nat.beq k i) F = (foldOn st D F).put o.dst e
theorem guarded_congr {tm tm' : List SV} {o : Oper} (h : ∀ t ∈ o.looksAt ops, tm.getD t .junk = tm'.getD t .junk) : guarded ops.toList tm o = guarded ops.toList tm' o := by
  unfold guarded
  split
  · rfl
  · rename_i j want hj
    have : (ops.toList[j]?).bind (·.dst) = (ops[j]?).bind (·.dst) := by simp
    rw [this]
    split
    · rename_i d hd
      rw [h d (by simp [Oper.looksAt, hj, hd])]
    · rfl
theorem kind_cases (o : Oper) : kindOf Φ o.op = 0 ∨ kindOf Φ o.op ≠ 0 := by
  by_cases h : kindOf Φ o.op = 0
  · exact .inl h
  · exact .inr h
theorem kind_le (op : Op) : kindOf Φ op = 0 ∨ kindOf Φ op = 1 ∨ kindOf Φ op = 2 := by
  unfold kindOf
  repeat' split
  all_goals first | (simp; done) | (rename_i s d _; cases Nat.beq s d <;> simp)
theorem at_of (hm : EnvMono Φ) (hH : H.1 = clashes Φ ops bs) (hok : regionOk Φ ops bs = true) {F : Done} (hF : Good te Φ ops bs H st F) (hl : F.length = ops.size) {D : Nat → Bool} (hD : Closed bs F.length D) {i : Nat} (hi : i < ops.size) (hDi : D i = false)
    (hpre : ∀ k, preOf bs i k = true → D k = true) : ∃ o e, ops[i]? = some o ∧ At te Φ ops bs st F D i o e := by
  obtain ⟨o, e, r, hmem, hr, hrl, hback, hgr, hgo⟩ := hF.at i (by omega)
  have ho : ops[i]? = some o := (hF.mem _ hmem).2
  refine ⟨o, e, ho, ?_⟩
  -- those that are done and needn't come ahead
  have side : ∀ x ∈ F, D x.1 = true → preOf bs i x.1 = false → Beside Φ ops i x.1 o x.2.1 ∧ preOf bs x.1 i = false ∧ x.1 ≠ i := fun x hx hd hn => by
    have hne : i ≠ x.1 := fun e => by rw [e, hd] at hDi; cases hDi
    have h2 : preOf bs x.1 i = false := by
      cases hq : preOf bs x.1 i
      · rfl
      · rw [hD x.1 (hF.mem x hx).1 hd i hq] at hDi; cases hDi
    exact ⟨beside hok ho (hF.mem x hx).2 hne h2 hn, h2, fun e => hne e.symm⟩
  have hsame : foldOn st (preOf bs i) F = foldOn st (preOf bs i) r := hback _ fun k hk => by
    unfold preOf
    have : Nat.blt k i = false := by
      cases hq : Nat.blt k i
      · rfl
      · have := blt_of hq; omega
    rw [this]; rfl
  obtain ⟨b, hb1, hb2, hb3⟩ := hgo.run
  rw [← hsame] at hb1 hb2
  have htm : ∀ t ∈ o.looksAt ops, (foldOn st D F).tm.getD t .junk = (foldOn st (preOf bs i) F).tm.getD t .junk := fun t ht =>
    foldOn_tm (fun x _ h => hpre _ h) fun x hx hd hn he => (side x hx hd hn).1.yx t he ht
  have hev : ∀ x ∈ o.op.operands, (foldOn st D F).eval x = (foldOn st (preOf bs i) F).eval x := fun x hx => by
    cases x with
    | tmp t =>
      exact htm t (by
        unfold Oper.looksAt
        exact List.mem_append_left _ (List.mem_filterMap.2 ⟨.tmp t, by simpa using hx, rfl⟩))
    | const v => rfl
    | global g => rfl
    | func f => rfl
  have hown := hF.own _ hmem
  have hnone : ∀ n, inBlk (slotOf i o) n → ((foldOn st (preOf bs i) F).hp n = none ↔ (foldOn st D F).hp n = none) := fun n hn => by
    by_cases hs : st.hp n = none
    · have : (foldOn st D F).hp n = (foldOn st (preOf bs i) F).hp n := foldOn_hp (fun x _ h => hpre _ h) fun x hx hd hp hin => by
        obtain ⟨s1, s2, s3⟩ := side x hx hd hp
        rcases hF.names x hx n hin with ⟨h1, _⟩ | ⟨_, h1 | ⟨y, hy, h2, h3, h4⟩⟩
        · exact s1.slot (by unfold inBlk at hn h1; omega)
        · exact h1 hs
        · by_cases hyi : y.1 = i
          · rw [hyi, s2] at h2; cases h2
          · exact hF.own y hy h4 i o ho (fun e => hyi e.symm) (by unfold inBlk at hn h3; omega)
      rw [this]
    · exact ⟨fun h => absurd h (foldOn_some hs F), fun h => absurd h (foldOn_some hs F)⟩
  refine ⟨⟨b, (guarded_congr htm).trans hb1, fun hb => ?_, hb3⟩, ?_⟩
  · obtain ⟨h0, hh⟩ := hb2 hb
    have hfree : ∀ n, inBlk (slotOf i o) n → n ∉ hid H i := fun n hn hm => (hidOk_parts hh (hid_clash hm)).2 n hm hn
    rw [core_congr hev]
    rcases kind_le (Φ := Φ) o.op with hk | hk
    · rw [core_zero (d := slotOf i o) (hp := hide (hid H i) (foldOn st (preOf bs i) F).hp) (fun n hn => by rw [hide_not (hfree n hn)]; exact hnone n hn) hk]
      exact h0
    · refine core_grown hm (d := slotOf i o) (hp := hide (hid H i) (foldOn st (preOf bs i) F).hp) ⟨fun c ch hc => ?_, fun n hn h => (hnone n hn).1 (by rw [hide_not (hfree n hn)] at h; exact h)⟩ h0
      obtain ⟨hcn, hc⟩ := hide_some hc
      rw [← hc]
      refine foldOn_hp (fun x _ h => hpre _ h) fun x hx hd hp hin => ?_
      obtain ⟨s1, s2, s3⟩ := side x hx hd hp
      have hk2 : kindOf Φ x.2.1.op ≠ 2 := fun e => by
        have hk0 : kindOf Φ o.op ≠ 0 := by omega
        obtain ⟨_, q2, q3, _⟩ := hid_of hH ho (hF.mem x hx).2 (Ne.symm s3) s2 hp (.inr ⟨e, hk0⟩)
        have hne : x.2.2.upd ≠ [] := fun hq => by rw [hq] at hin; simp [namesOf] at hin
        exact hcn (q3 c ((hidOk_parts (hF.hid x hx hne) q2).1 c hin).1)
      rcases hF.names x hx c hin with ⟨h1, h2⟩ | ⟨h1, _⟩
      · obtain ⟨y, hy, y1, y2, y3⟩ := hF.origin (closed_pre hok hi) h2 F (fun _ h => h) (by rw [hc]; simp)
        by_cases hxy : y.1 = x.1
        · rw [hxy, hp] at y1; cases y1
        · exact hF.own y hy y3 x.1 x.2.1 (hF.mem x hx).2 (fun e => hxy e.symm) (by unfold inBlk at h1 y2; omega)
      · exact hk2 h1
  · refine foldOn_insert hmem (fun x hx he => hF.uniq x hx _ hmem he) hF.pairwise hDi fun x hx hd hlt => ?_
    have hn : preOf bs i x.1 = false := by
      unfold preOf
      have : Nat.blt x.1 i = false := by
        cases hq : Nat.blt x.1 i
        · rfl
        · have := blt_of hq; omega
      rw [this]; rfl
    obtain ⟨s1, s2, s3⟩ := side x hx hd hn
    refine ⟨s1.dd, fun m hm1 hm2 => ?_⟩
    have hne : e.upd ≠ [] := fun hq => by rw [hq] at hm1; simp [namesOf] at hm1
    have hne' : x.2.2.upd ≠ [] := fun hq => by rw [hq] at hm2; simp [namesOf] at hm2
    have n1 := hF.names _ hmem m hm1
    have n2 := hF.names x hx m hm2
    simp only at n1
    rcases n1 with ⟨a1, a2⟩ | ⟨a1, a2⟩
    · rcases n2 with ⟨b1, b2⟩ | ⟨b1, b2 | ⟨y, hy, b2, b3, b4⟩⟩
      · exact s1.slot (by unfold inBlk at a1 b1; omega)
      · exact b2 a2
      · by_cases hyi : y.1 = i
        · rw [hyi, s2] at b2; cases b2
        · exact hF.own y hy b4 i o ho (fun e => hyi e.symm) (by unfold inBlk at a1 b3; omega)
    · rcases n2 with ⟨b1, b2⟩ | ⟨b1, _⟩
      · rcases a2 with a2 | ⟨y, hy, a2, a3, a4⟩
        · exact a2 b2
        · by_cases hyx : y.1 = x.1
          · rw [hyx] at a2
            rw [hn] at a2; cases a2
          · exact hF.own y hy a4 x.1 x.2.1 (hF.mem x hx).2 (fun e => hyx e.symm) (by unfold inBlk at b1 a3; omega)
      · obtain ⟨q1, q2, q3, _⟩ := hid_of hH ho (hF.mem x hx).2 (Ne.symm s3) s2 hn (.inl ⟨a1, by rw [b1]; decide⟩)
        exact ((hidOk_parts (hF.hid _ hmem hne) q1).1 m hm1).2 (q3 m ((hidOk_parts (hF.hid x hx hne') q2).1 m hm2).1)
end
end Sx
end Go.Proofs.Ytkedomfjjahjnaa

namespace Go.Proofs.Ytkedomfjjahjnaa
namespace Sx
open Go
def doneOf (listed : Array Bool) (k : Nat) : Bool := listed.getD k false
theorem doneOf_set {listed : Array Bool} {i : Nat} (hi : i < listed.size) : doneOf (listed.setIfInBounds i true) = fun k => doneOf listed k || Nat.beq k i := by
  funext k
  unfold doneOf
  by_cases h : k = i
  · subst h
    simp [hi]
  · have : Nat.beq k i = false := by
      cases hq : Nat.beq k i
      · rfl
      · exact absurd (Nat.eq_of_beq_eq_true hq) h
    rw [this, Bool.or_false]
    simp [Array.getElem?_setIfInBounds_ne (Ne.symm h)]
theorem HpOk.drew {R : Ctx} {w : World} (h : HpOk R w) (n : Nat) : HpOk R { w with drawn := n } := by
  refine ⟨h.F, h.U, fun c ch hc => ?_, h.apart, h.FU, h.env⟩
  have := h.ch c ch hc
  unfold ChOk at this ⊢
  exact this
section
variable {P : Program} {te : TE} {Φ : Env} {ops : Array Oper} {bs : Array Nat} {H : Hid} {st : St}
theorem all_listed (hok : regionOk Φ ops bs = true) {listed : Array Bool} (hs : listed.size = ops.size) (hr : Region.ready .any ops listed = []) : ∀ k, k < ops.size → doneOf listed k = true := by
  intro k
  induction k using Nat.strongRecOn with
  | ind k ih =>
    intro hk
    cases hq : doneOf listed k
    · have : k ∈ Region.ready .any ops listed := mem_ready.2 ⟨by
        unfold doneOf at hq
        have hk' : k < listed.size := by omega
        simpa [hk'] using hq, ops[k], Array.getElem?_eq_getElem hk, fun e he hb => by
          have := ((bits_of hok (Array.getElem?_eq_getElem hk)).1 e he hb).1
          exact ih e.on this (by omega)⟩
      rw [hr] at this
      cases this
    · rfl
theorem any_loop (hte : TeOk P te) (hΦ : EnvOk P Φ) (hmono : EnvMono Φ) (hH : H.1 = clashes Φ ops bs) (hok : regionOk Φ ops bs = true) {F : Done} (hF : Good te Φ ops bs H st F) (hl : F.length = ops.size)
    {R₀ : Ctx} {K : SE → St → Prop} {Q : Exit → Act → World → Prop} (hK : Covers R₀ K Q) (hend : K .normal (foldOn st (fun _ => true) F)) :
    ∀ (fuel : Nat) (listed : Array Bool) (R : Ctx) (a : Act) (w : World), listed.size = ops.size → listed.toList.count false = fuel → Closed bs F.length (doneOf listed) → R₀.Ext R →
      StOk R (foldOn st (doneOf listed) F) a w → wpAny P .any ops Q fuel listed a w := by
  have done : ∀ (listed : Array Bool) (R : Ctx) (a : Act) (w : World), (∀ k, k < ops.size → doneOf listed k = true) → R₀.Ext R → StOk R (foldOn st (doneOf listed) F) a w → Q .normal a w := fun listed R a w h hx hst => by
    rw [foldOn_congr (D' := fun _ => true) fun x hx => h x.1 (by have := (hF.mem x hx).1; omega)] at hst
    exact hK.normal R _ a w hx hst hend
  intro fuel
  induction fuel with
  | zero =>
    intro listed R a w hs hc hD hx hst
    have hall : ∀ k, k < ops.size → doneOf listed k = true := fun k hk => by
      have hk' : k < listed.size := by omega
      have h1 := List.count_eq_zero.1 hc
      unfold doneOf
      cases hq : listed[k]
      · exact absurd (by rw [← hq]; simp) h1
      · simp [hk', hq]
    refine ⟨?_, done listed R a w hall hx hst⟩
    cases hr : Region.ready .any ops listed with
    | nil => rfl
    | cons i r =>
      have : i ∈ Region.ready .any ops listed := by rw [hr]; simp
      obtain ⟨h1, o, ho, h2⟩ := mem_ready.1 this
      have hi : i < ops.size := (Array.getElem?_eq_some_iff.1 ho).1
      have := hall i hi
      have hi' : i < listed.size := by omega
      unfold doneOf at this
      simp [hi'] at this h1
      rw [this] at h1
      cases h1
  | succ fuel ih =>
    intro listed R a w hs hc hD hx hst
    refine ⟨fun hr => done listed R a w (all_listed hok hs hr) hx hst, fun i hi => ?_⟩
    obtain ⟨h1, o, ho, h2⟩ := mem_ready.1 hi
    have hi' : i < ops.size := (Array.getElem?_eq_some_iff.1 ho).1
    have hil : i < listed.size := by omega
    have hnot : listed[i] = false := by simpa [hil] using h1
    have hDi : doneOf listed i = false := by unfold doneOf; simp [hil, hnot]
    have hpre : ∀ k, preOf bs i k = true → doneOf listed k = true := fun k hk => by
      obtain ⟨e, he, hb, h3 | h3⟩ := ((bits_of hok ho).2 k hk).2
      · rw [← h3]; exact h2 e he hb
      · have h4 := ((bits_of hok ho).1 e he hb).1
        exact hD e.on (by omega) (h2 e he hb) k h3
    obtain ⟨o', e, ho', hat⟩ := at_of hmono hH hok hF hl hD hi' hDi hpre
    rw [ho] at ho'
    cases ho'
    have hset := doneOf_set hil
    have hcount : (listed.setIfInBounds i true).toList.count false = fuel := by
      rw [Array.toList_setIfInBounds, List.count_set (by simpa using hil)]
      simp [hnot, hc]
    have hclosed : Closed bs F.length (doneOf (listed.setIfInBounds i true)) := fun k hk hd l hpl => by
      rw [hset] at hd ⊢
      simp only [Bool.or_eq_true] at hd ⊢
      rcases hd with hd | hd
      · exact .inl (hD k hk hd l hpl)
      · rw [Nat.eq_of_beq_eq_true hd] at hpl
        exact .inl (hpre l hpl)
    obtain ⟨b, g1, g2, g3⟩ := hat.guard
    have hw := guarded_wanted hst g1
    unfold wpOp
    simp only [ho, hw]
    cases b
    · simp only [Bool.false_eq_true, if_false]
      refine ih _ R _ _ (by simpa using hs) hcount hclosed hx ?_
      rw [hset, hat.put, g3 rfl]
      exact hst.undef o.dst
    · simp only [if_true]
      refine .inl (core_sound hte hΦ hst (g2 rfl) ?_)
      exact fun R' w' v ha hv => ih _ R' _ _ (by simpa using hs) hcount hclosed (hx.trans ha.ext) (by rw [hset, hat.put]; exact hst.put ha hv o.dst)
theorem any_ok (hm : P.follows .mixedOrders = true) (hte : TeOk P te) (hΦ : EnvOk P Φ) (hmono : EnvMono Φ) : AnyOk P te Φ := by
  intro R₀ id ops K Q R st a w hK hx hst hok h
  obtain ⟨F, h1, h2, h3⟩ := walk_good (te := te) (Φ := Φ) (ops := ops) (bs := bitsOf ops) (H := hidOf te Φ ops (bitsOf ops) st) (st := st) ops.toList [] trivial (fun k => by simp) h
  have hl : F.length = ops.size := by simpa using h2
  refine wp_region_any hm (any_loop hte hΦ hmono hidOf_one hok h1 hl hK h3 ops.size _ R a _ (by simp) (by simp) ?_ hx ?_)
  · intro k _ hd
    unfold doneOf at hd
    simp [Array.getD] at hd
  · have : foldOn st (doneOf (Array.replicate ops.size false)) F = st := by
      rw [foldOn_congr (D' := fun _ => false) fun x hx => by unfold doneOf; simp [Array.getD]]
      clear h h1 h2 h3 hl
      induction F with
      | nil => rfl
      | cons y r ih => exact ih
    rw [this]
    exact ⟨hst.hp, hst.mem.drew _, hst.tm, hst.defers⟩
end
end Sx
end Go.Proofs.Ytkedomfjjahjnaa

namespace Go.Proofs.Ytkedomfjjahjnaa
namespace Sx
open Go
def asListK (ok : Nat → Bool) (t : Ty) (hp : Hp) : SV → Option (List t.T)
  | .lst t' xs => rowList t t' xs
  | .emp => some []
  | .own c e | .clip c e => match hp c with
    | some ⟨ep, .row t' xs⟩ => cond (Nat.beq ep e && ok c) (rowList t t' xs) none
    | some ⟨ep, .frz t' xs⟩ => cond (Nat.beq ep e) (rowList t t' xs) none
    | _ => none
  | .part c e off len => match hp c with
    | some ⟨ep, .row t' xs⟩ => cond (Nat.beq ep e && ok c) ((rowList t t' xs).map fun l => (l.drop off).take len) none
    | some ⟨ep, .frz t' xs⟩ => cond (Nat.beq ep e) ((rowList t t' xs).map fun l => (l.drop off).take len) none
    | _ => none
  | _ => none
def packK (ok : Nat → Bool) (hp : Hp) : (t : Ty) → List SV → Option t.T
  | .bool, cs => pBool cs
  | .u64, cs => pU64 cs
  | .u8, cs => pU8 cs
  | .int, cs => pInt cs
  | .str, cs => pStr cs
  | .elem, cs => pElem cs
  | .prod a b, cs => pPair (packK ok hp a (cs.take a.size)) (packK ok hp b (cs.drop a.size))
  | .arr n t, cs => if cs.length = n * t.size then (List.range n).mapM fun i => packK ok hp t ((cs.drop (i * t.size)).take t.size) else none
  | .list t, cs => if 0 < t.size then pOne (asListK ok t hp) cs else none
section
variable {R : Ctx} {w : World} {F' : Nat → Option Obj} {ok : Nat → Bool} (hm : HpOk R w) (hF : ∀ b o, R.F b = some o → F' b = some o)
  (hok : ∀ c ch L, ok c = true → R.hp c = some ch → R.σ c = some L → F' L.block = w.heap[L.block]?)
include hm hF hok
theorem borrowK_part {c e off len : Nat} {v : Value} {t : Ty} {xs : List t.T} {b : Chunk} (hc : R.hp c = some ⟨e, b⟩) (hb : (b = .row t xs ∧ ok c = true) ∨ b = .frz t xs) (h : R.part c e off len v) :
    Rep F' (.list t) ((xs.drop off).take len) [v] := by
  obtain ⟨h1, h2, ad, cap, rfl, h4, h5⟩ := Ctx.part_open hc h
  have hsh : b.shape = (true, t.size, xs.length) := by rcases hb with ⟨rfl, _⟩ | rfl <;> rfl
  rw [hsh] at h2 h5
  simp only at h2 h5
  have hlen : ((xs.drop off).take len).length = len := by simp; omega
  have hch := hm.ch c _ hc
  have key : ∀ (L : Loc) (arr : Array Value) (E : TypeId) (fz : Nat × Nat), R.σ c = some L → xs.length ≤ maxLen' → F' L.block = some (.cells arr E fz) → arr.size = L.base + L.lim → xs.length * t.size ≤ L.lim → RowIn R arr L.base t xs →
      Rep F' (.list t) ((xs.drop off).take len) [.slice ad len cap] := fun L arr E fz hσ hmx hbk ha hl hrow => by
    rw [hσ] at h5
    obtain ⟨h6, h7⟩ := h5
    refine ⟨by omega, ad, cap, by rw [hlen], by omega, ?_⟩
    by_cases hl0 : len = 0
    · left; exact List.eq_nil_of_length_eq_zero (by omega)
    · right
      have hle : (off + len) * t.size ≤ xs.length * t.size := Nat.mul_le_mul_right _ h2
      rw [Nat.add_mul] at hle
      refine ⟨L.block, L.base + off * t.size, arr, E, fz, h7 (by omega), hbk, by rw [hlen]; omega, fun i hi => ?_⟩
      rw [hlen] at hi
      have e1 : ((xs.drop off).take len).getD i t.d = xs.getD (off + i) t.d := by
        simp only [List.getD_eq_getElem?_getD]
        rw [List.getElem?_take_of_lt hi, List.getElem?_drop]
      rw [e1, Nat.add_assoc, ← Nat.add_mul]
      exact Rep_mono hF _ _ _ (hrow _ (by omega))
  cases hσ : R.σ c with
  | none =>
    rw [hσ] at h5
    simp only at h5
    have : (xs.drop off).take len = [] := List.eq_nil_of_length_eq_zero (by omega)
    rw [this]
    have hl0 : len = 0 := by omega
    subst hl0
    exact Rep_list_nil t ad cap
  | some L =>
    rcases hb with ⟨rfl, hk⟩ | rfl
    · simp only [ChOk, hσ] at hch
      obtain ⟨_, hmx, _, _, arr, E, hbk, ha, hl, hrow⟩ := hch
      exact key L arr E _ hσ hmx (by rw [hok c _ L hk hc hσ]; exact hbk) ha hl hrow
    · simp only [ChOk, hσ] at hch
      obtain ⟨_, hmx, arr, E, fz, hbk, ha, hl, hrow⟩ := hch
      exact key L arr E fz hσ hmx (hF _ _ hbk) ha hl hrow
theorem borrowK_own {c e : Nat} {t t' : Ty} {xs : List t'.T} {ys : List t.T} {v : Value} {b : Chunk} (hc : R.hp c = some ⟨e, b⟩) (hb : (b = .row t' xs ∧ ok c = true) ∨ b = .frz t' xs) (hy : rowList t t' xs = some ys) (h : R.own c e v) :
    Rep F' (.list t) ys [v] := by
  obtain ⟨e, rfl⟩ := rowList_some hy
  subst e
  have := borrowK_part hm hF hok hc hb (Ctx.own_part hc h)
  have hsh : b.shape = (true, t'.size, xs.length) := by rcases hb with ⟨rfl, _⟩ | rfl <;> rfl
  rw [hsh] at this
  simpa using this
theorem borrowK_some {c e off len : Nat} {t t' : Ty} {xs : List t'.T} {ys : List t.T} {v : Value} {b : Chunk} (hc : R.hp c = some ⟨e, b⟩) (hb : (b = .row t' xs ∧ ok c = true) ∨ b = .frz t' xs)
    (hy : (rowList t t' xs).map (fun l => (l.drop off).take len) = some ys) (h : R.part c e off len v) : Rep F' (.list t) ys [v] := by
  cases hr : rowList t t' xs with
  | none => rw [hr] at hy; cases hy
  | some zs =>
    rw [hr] at hy
    cases hy
    obtain ⟨e, rfl⟩ := rowList_some hr
    subst e
    exact borrowK_part hm hF hok hc hb h
theorem borrowK_list {t : Ty} {x : SV} {ys : List t.T} {v : Value} (h : asListK ok t R.hp x = some ys) (hx : SV.rel R x v) : Rep F' (.list t) ys [v] := by
  cases x <;> simp only [asListK] at h <;> try (cases h; done)
  case lst t' xs =>
    obtain ⟨e, rfl⟩ := rowList_some h
    subst e
    simp only [SV.rel] at hx
    exact Rep_mono hF _ _ _ hx
  case emp =>
    cases h
    simp only [SV.rel] at hx
    obtain ⟨ad, rfl⟩ := hx
    exact Rep_list_nil t ad 0
  case own c e =>
    simp only [SV.rel] at hx
    split at h
    · rename_i ep t' xs hc
      cases hb : Nat.beq ep e && ok c
      · rw [hb] at h; cases h
      · rw [hb] at h
        rw [Bool.and_eq_true] at hb
        have := Nat.eq_of_beq_eq_true hb.1
        subst this
        exact borrowK_own hm hF hok hc (.inl ⟨rfl, hb.2⟩) h hx.2
    · rename_i ep t' xs hc
      cases hb : Nat.beq ep e
      · rw [hb] at h; cases h
      · rw [hb] at h
        have := Nat.eq_of_beq_eq_true hb
        subst this
        exact borrowK_own hm hF hok hc (.inr rfl) h hx.2
    · cases h
  case clip c e =>
    simp only [SV.rel] at hx
    split at h
    · rename_i ep t' xs hc
      cases hb : Nat.beq ep e && ok c
      · rw [hb] at h; cases h
      · rw [hb] at h
        rw [Bool.and_eq_true] at hb
        have := Nat.eq_of_beq_eq_true hb.1
        subst this
        exact borrowK_own hm hF hok hc (.inl ⟨rfl, hb.2⟩) h hx.2.1
    · rename_i ep t' xs hc
      cases hb : Nat.beq ep e
      · rw [hb] at h; cases h
      · rw [hb] at h
        have := Nat.eq_of_beq_eq_true hb
        subst this
        exact borrowK_own hm hF hok hc (.inr rfl) h hx.2.1
    · cases h
  case part c e off len =>
    simp only [SV.rel] at hx
    split at h
    · rename_i ep t' xs hc
      cases hb : Nat.beq ep e && ok c
      · rw [hb] at h; cases h
      · rw [hb] at h
        rw [Bool.and_eq_true] at hb
        have := Nat.eq_of_beq_eq_true hb.1
        subst this
        exact borrowK_some hm hF hok hc (.inl ⟨rfl, hb.2⟩) h hx.2
    · rename_i ep t' xs hc
      cases hb : Nat.beq ep e
      · rw [hb] at h; cases h
      · rw [hb] at h
        have := Nat.eq_of_beq_eq_true hb
        subst this
        exact borrowK_some hm hF hok hc (.inr rfl) h hx.2
    · cases h
theorem rel_packK : ∀ (t : Ty) (cs : List SV) (x : t.T) (vs : List Value), packK ok R.hp t cs = some x → SV.relL R cs vs → Rep F' t x vs
  | .bool, cs, x, vs, h, hr => Rep_mono hF _ _ _ (rel_pack hm .bool cs x vs h hr)
  | .u64, cs, x, vs, h, hr => Rep_mono hF _ _ _ (rel_pack hm .u64 cs x vs h hr)
  | .u8, cs, x, vs, h, hr => Rep_mono hF _ _ _ (rel_pack hm .u8 cs x vs h hr)
  | .int, cs, x, vs, h, hr => Rep_mono hF _ _ _ (rel_pack hm .int cs x vs h hr)
  | .str, cs, x, vs, h, hr => Rep_mono hF _ _ _ (rel_pack hm .str cs x vs h hr)
  | .elem, cs, x, vs, h, hr => Rep_mono hF _ _ _ (rel_pack hm .elem cs x vs h hr)
  | .prod a b, cs, x, vs, h, hr => by
    obtain ⟨h1, h2⟩ := pPair_some h
    have r1 := rel_packK a _ _ _ h1 (SV.relL_take hr a.size)
    have r2 := rel_packK b _ _ _ h2 (SV.relL_drop hr a.size)
    refine ⟨?_, r1, r2⟩
    rw [← List.take_append_drop a.size vs, List.length_append, Rep_length _ _ _ r1, Rep_length _ _ _ r2]
  | .arr n t, cs, x, vs, h, hr => by
    simp only [packK] at h
    split at h
    · rename_i hl
      obtain ⟨h1, h2⟩ := mapM_getD t.d h
      refine ⟨by rw [SV.relL_length hr, hl], by simpa using h1, fun i hi => ?_⟩
      have := h2 i (by simpa using hi)
      simp only [List.getElem_range] at this
      exact rel_packK t _ _ _ this (SV.relL_take (SV.relL_drop hr (i * t.size)) t.size)
    · cases h
  | .list t, cs, x, vs, h, hr => by
    simp only [packK] at h
    split at h
    · obtain ⟨y, rfl, hy⟩ := pOne_some h
      obtain ⟨v, rfl, hv⟩ := relL_one hr
      exact borrowK_list hm hF hok hy hv
    · cases h
end
theorem packK_length {ok : Nat → Bool} {hp : Hp} : ∀ {t : Ty} {cs : List SV} {x : t.T}, packK ok hp t cs = some x → cs.length = t.size
  | .bool, cs, x, h => by rw [pBool_some h]; rfl
  | .u64, cs, x, h => by rw [pU64_some h]; rfl
  | .u8, cs, x, h => by rw [pU8_some h]; rfl
  | .int, cs, x, h => by rw [pInt_some h]; rfl
  | .str, cs, x, h => by rw [pStr_some h]; rfl
  | .elem, cs, x, h => by rw [pElem_some h]; rfl
  | .prod a b, cs, x, h => by
    obtain ⟨h1, h2⟩ := pPair_some h
    have l1 := packK_length h1
    have l2 := packK_length h2
    simp only [List.length_take, List.length_drop] at l1 l2
    simp only [Ty.size]
    omega
  | .arr n t, cs, x, h => by
    simp only [packK] at h
    split at h
    · assumption
    · cases h
  | .list t, cs, x, h => by
    simp only [packK] at h
    split at h
    · obtain ⟨y, rfl, _⟩ := pOne_some h
      rfl
    · cases h
end Sx
end Go.Proofs.Ytkedomfjjahjnaa

namespace Go.Proofs.Ytkedomfjjahjnaa
namespace Sx
open Go
inductive Sh where
  | val (b : Bool) (t : Ty)
  | own (n : Nat)
  | ptr (n i off : Nat)
  | fn (f : FuncId) (ns : List Nat)
  | ifp (t : TypeId) (n : Nat)
  | nilp | niface | undef
def Sh.T : Sh → Type
  | .val _ t => t.T
  | _ => Unit
inductive CSh where
  | row (t : Ty)
  | frz (t : Ty)
  | cells (l : List Sh)
  | gone
def ShT : List Sh → Type
  | [] => Unit
  | s :: r => s.T × ShT r
def CSh.T : CSh → Type
  | .row t => List t.T
  | .frz t => List t.T
  | .cells l => ShT l
  | .gone => Unit
def CSh.ep : CSh → Nat
  | .gone => 1
  | _ => 0
def CSh.isGone : CSh → Bool
  | .gone => true
  | _ => false
def CShT : List (Nat × CSh) → Type
  | [] => Unit
  | c :: r => c.2.T × CShT r
def SlT : List (Nat × Sh) → Type
  | [] => Unit
  | c :: r => c.2.T × SlT r
abbrev Bd := List (Nat × Option Nat)
def bdGet : Bd → Nat → Option (Option Nat)
  | [], _ => none
  | (m, o) :: r, n => cond (Nat.beq m n) (some o) (bdGet r n)
def bdPut (b : Bd) (n : Nat) (o : Option Nat) : Bd := match bdGet b n with
  | some _ => b
  | none => (n, o) :: b
def bindPtrs : List Nat → List SV → Bd → Bd
  | n :: ns, .ptr c _ _ _ :: r, b => bindPtrs ns r (bdPut b n (some c))
  | _, _, b => b
def bindOne : Sh → SV → Bd → Bd
  | .own n, .own c _, b => bdPut b n (some c)
  | .own n, .emp, b => bdPut b n none
  | .ptr n _ _, .ptr c _ _ _, b => bdPut b n (some c)
  | .fn _ ns, .fn _ _ caps, b => bindPtrs ns caps b
  | .ifp _ n, .iface _ (.ptr c _ _ _), b => bdPut b n (some c)
  | _, _, b => b
def Sh.size : Sh → Nat
  | .val _ t => t.size
  | _ => 1
def bindCells : List Sh → List SV → Bd → Bd
  | s :: r, cs, b => bindCells r (cs.drop s.size) (bindOne s (cs.headD .junk) b)
  | [], _, b => b
def bindSlots (tm : List SV) : List (Nat × Sh) → Bd → Bd
  | (i, s) :: r, b => bindSlots tm r (bindOne s (tm.getD i .junk) b)
  | [], b => b
def bindChunks (hp : Hp) : List (Nat × CSh) → Bd → Bd
  | (n, .cells l) :: r, b => bindChunks hp r (match bdGet b n with
    | some (some c) => match hp c with
      | some ⟨_, .cells vs⟩ => bindCells l vs b
      | _ => b
    | _ => b)
  | _ :: r, b => bindChunks hp r b
  | [], b => b
def isNow (bd : Bd) (hp : Hp) (n c e : Nat) : Bool := match bdGet bd n with
  | some (some c') => Nat.beq c' c && (match hp c with
    | some ch => Nat.beq ch.ep e
    | none => false)
  | _ => false
def isNought' (bd : Bd) (n : Nat) : Bool := match bdGet bd n with
  | some none => true
  | _ => false
def arePtrs (bd : Bd) (hp : Hp) : List Nat → List SV → Bool
  | [], [] => true
  | n :: ns, .ptr c e i off :: r => isNow bd hp n c e && Nat.beq i 0 && Nat.beq off 0 && arePtrs bd hp ns r
  | _, _ => false
def optIf (b : Bool) : Option Unit := cond b (some ()) none
def isOne (bd : Bd) (hp : Hp) : Sh → List SV → Bool
  | .own n, [.own c e] => isNow bd hp n c e
  | .own n, [.emp] => isNought' bd n
  | .ptr n i off, [.ptr c e i' off'] => isNow bd hp n c e && Nat.beq i i' && Nat.beq off off'
  | .fn f ns, [.fn (.func f') [] caps] => Nat.beq f f' && arePtrs bd hp ns caps
  | .ifp t n, [.iface t' (.ptr c e i off)] => Nat.beq t t' && (isNow bd hp n c e && (Nat.beq i 0 && Nat.beq off 0))
  | .nilp, [.nilp] => true
  | .niface, [.niface] => true
  | .undef, [.undef] => true
  | _, _ => false
def prjOne (bd : Bd) (ok : Nat → Bool) (hp : Hp) : (s : Sh) → List SV → Option s.T
  | .val _ t => fun cs => packK ok hp t cs
  | .own n => fun cs => optIf (isOne bd hp (.own n) cs)
  | .ptr n i off => fun cs => optIf (isOne bd hp (.ptr n i off) cs)
  | .fn f ns => fun cs => optIf (isOne bd hp (.fn f ns) cs)
  | .ifp t n => fun cs => optIf (isOne bd hp (.ifp t n) cs)
  | .nilp => fun cs => optIf (isOne bd hp .nilp cs)
  | .niface => fun cs => optIf (isOne bd hp .niface cs)
  | .undef => fun cs => optIf (isOne bd hp .undef cs)
def injOne : (s : Sh) → s.T → List SV
  | .val _ t, x => unpack t x
  | .own n, _ => [.own n 0]
  | .ptr n i off, _ => [.ptr n 0 i off]
  | .fn f ns, _ => [.fn (.func f) [] (ns.map fun n => .ptr n 0 0 0)]
  | .ifp t n, _ => [.iface t (.ptr n 0 0 0)]
  | .nilp, _ => [.nilp]
  | .niface, _ => [.niface]
  | .undef, _ => [.undef]
def Sh.agg : Sh → Bool
  | .val b _ => b
  | _ => false
def slotCells : Bool → SV → Option (List SV)
  | true, .agg l => some l
  | true, _ => none
  | false, x => some [x]
def prjSlot (bd : Bd) (ok : Nat → Bool) (hp : Hp) (s : Sh) (x : SV) : Option s.T :=
  match slotCells s.agg x with
  | some l => prjOne bd ok hp s l
  | none => none
def injSlot (s : Sh) (x : s.T) : SV := mkVal s.agg (injOne s x)
def prjCells (bd : Bd) (ok : Nat → Bool) (hp : Hp) : (l : List Sh) → List SV → Option (ShT l)
  | [], [] => some ()
  | [], _ :: _ => none
  | s :: r, cs => pPair (prjOne bd ok hp s (cs.take s.size)) (prjCells bd ok hp r (cs.drop s.size))
def injCells : (l : List Sh) → ShT l → List SV
  | [], _ => []
  | s :: r, x => injOne s x.1 ++ injCells r x.2
def prjSlots (bd : Bd) (ok : Nat → Bool) (hp : Hp) (tm : List SV) : (l : List (Nat × Sh)) → Option (SlT l)
  | [] => some ()
  | c :: r => pPair (prjSlot bd ok hp c.2 (tm.getD c.1 .junk)) (prjSlots bd ok hp tm r)
def injSlots : (l : List (Nat × Sh)) → SlT l → List SV → List SV
  | [], _, tm => tm
  | c :: r, x, tm => injSlots r x.2 (tm.set c.1 (injSlot c.2 x.1))
def prjChunk (bd : Bd) (ok : Nat → Bool) (hp : Hp) : (s : CSh) → Chunk → Option s.T
  | .row t, .row t' xs => rowList t t' xs
  | .row _, _ => none
  | .frz t, .frz t' xs => rowList t t' xs
  | .frz _, _ => none
  | .cells l, .cells vs => prjCells bd ok hp l vs
  | .cells _, _ => none
  | .gone, _ => none
def goneChunk : (s : CSh) → Option s.T
  | .gone => some ()
  | _ => none
def noChunk : (s : CSh) → Option s.T
  | .row t => cond (Nat.blt 0 t.size) (some ([] : List t.T)) none
  | _ => none
def injChunk : (s : CSh) → s.T → Chunk
  | .row t, xs => .row t xs
  | .frz t, xs => .frz t xs
  | .cells l, x => .cells (injCells l x)
  | .gone, _ => .row .u8 []
def prjOld (bd : Bd) (ok : Nat → Bool) (hp : Hp) (n : Nat) (s : CSh) : Option s.T :=
  match bdGet bd n with
  | some (some c) => match hp c with
    | some ch => prjChunk bd ok hp s ch.body
    | none => none
  | some none => noChunk s
  | none => goneChunk s
def prjChunks (bd : Bd) (ok : Nat → Bool) (hp : Hp) : (l : List (Nat × CSh)) → Option (CShT l)
  | [] => some ()
  | c :: r => pPair (prjOld bd ok hp c.1 c.2) (prjChunks bd ok hp r)
def injHp : (l : List (Nat × CSh)) → CShT l → Hp
  | [], _ => fun _ => none
  | c :: r, x => fun n => cond (Nat.beq n c.1) (some ⟨c.2.ep, injChunk c.2 x.1⟩) (injHp r x.2 n)
def isOld (c : Nat) (p : Nat × Option Nat) : Bool := match p.2 with
  | some o => Nat.beq o c
  | none => false
def freeOf (lists : Bool) (bd : Bd) (c : Nat) : Bool := lists && !(bd.any (isOld c))
structure Shape where
  n : Nat
  slots : List (Nat × Sh)
  chunks : List (Nat × CSh)
  fixed : Nat
  lists : Bool := true
abbrev Shape.T (s : Shape) : Type := SlT s.slots × CShT s.chunks
def Shape.inj (s : Shape) (x : s.T) : St := ⟨injSlots s.slots x.1 (List.replicate s.n .junk), injHp s.chunks x.2⟩
def Shape.bd (s : Shape) (st : St) : Bd := bindChunks st.hp s.chunks (bindSlots st.tm s.slots (((List.range s.fixed).filter fun k => !(s.chunks.any fun c => Nat.beq c.1 k && c.2.isGone)).map fun k => (k, some k)))
def distinct : List Nat → Bool
  | [] => true
  | x :: r => !(r.any fun y => Nat.beq x y) && distinct r
def Shape.bdOk (s : Shape) (st : St) (bd : Bd) : Bool :=
  distinct (s.chunks.map (·.1)) &&
  s.chunks.all (fun c => s.chunks.all fun c' => Nat.beq c.1 c'.1 || (match bdGet bd c.1, bdGet bd c'.1 with
    | some (some o), some (some o') => !Nat.beq o o'
    | _, _ => true)) &&
  bd.all (fun p => s.chunks.any fun c => Nat.beq c.1 p.1) &&
  (List.range s.fixed).all fun k => (match bdGet bd k with
    | some (some c) => Nat.beq c k && (match st.hp k with
      | some ch => Nat.beq ch.ep 0
      | none => false)
    | some none => false
    | none => s.chunks.any fun c => Nat.beq c.1 k && c.2.isGone)
def Shape.prj (s : Shape) (st : St) : Option s.T :=
  let bd := s.bd st
  cond (s.bdOk st bd && Nat.beq st.tm.length s.n) (pPair (prjSlots bd (freeOf s.lists bd) st.hp st.tm s.slots) (prjChunks bd (freeOf s.lists bd) st.hp s.chunks)) none
def Shape.on (s : Shape) (st : St) (k : s.T → Prop) : Prop := match s.prj st with
  | some x => k x
  | none => False
end Sx
end Go.Proofs.Ytkedomfjjahjnaa

namespace Go.Proofs.Ytkedomfjjahjnaa
namespace Sx
open Go
theorem optIf_some {b : Bool} {x : Unit} (h : optIf b = some x) : b = true := by
  cases b
  · cases h
  · rfl
theorem isOne_single {bd : Bd} {hp : Hp} {s : Sh} {cs : List SV} (h : isOne bd hp s cs = true) : ∃ y, cs = [y] := by
  unfold isOne at h
  split at h <;> first | exact ⟨_, rfl⟩ | (cases h; done)
theorem prjOne_length {bd : Bd} {ok : Nat → Bool} {hp : Hp} {s : Sh} {cs : List SV} {x : s.T} (h : prjOne bd ok hp s cs = some x) : (injOne s x).length = cs.length := by
  cases s <;> simp only [prjOne] at h
  case val b t => rw [packK_length h]; exact unpack_length t x
  all_goals (obtain ⟨y, rfl⟩ := isOne_single (optIf_some h); rfl)
theorem prjCells_length {bd : Bd} {ok : Nat → Bool} {hp : Hp} : ∀ {l : List Sh} {cs : List SV} {x : ShT l}, prjCells bd ok hp l cs = some x → (injCells l x).length = cs.length
  | [], [], _, _ => rfl
  | [], _ :: _, _, h => by cases h
  | s :: r, cs, x, h => by
    obtain ⟨h1, h2⟩ := pPair_some h
    have l1 := prjOne_length h1
    have l2 := prjCells_length h2
    simp only [injCells, List.length_append, l1, l2, List.length_take, List.length_drop]
    omega
theorem prjChunk_shape {bd : Bd} {ok : Nat → Bool} {hp : Hp} {s : CSh} {b : Chunk} {y : s.T} (h : prjChunk bd ok hp s b = some y) : (injChunk s y).shape = b.shape := by
  cases s <;> cases b <;> simp only [prjChunk] at h <;> first | (cases h; done) | skip
  case row.row t t' xs =>
    obtain ⟨e, rfl⟩ := rowList_some h
    subst e
    rfl
  case frz.frz t t' xs =>
    obtain ⟨e, rfl⟩ := rowList_some h
    subst e
    rfl
  case cells.cells l vs =>
    simp only [injChunk, Chunk.shape, prjCells_length h]
theorem injHp_some {bd : Bd} {ok : Nat → Bool} {hp : Hp} : ∀ {l : List (Nat × CSh)} {x : CShT l}, prjChunks bd ok hp l = some x → ∀ {n : Nat} {ch : Ch}, injHp l x n = some ch →
    ∃ (s : CSh) (y : s.T), (n, s) ∈ l ∧ prjOld bd ok hp n s = some y ∧ ch = ⟨s.ep, injChunk s y⟩
  | [], _, _, _, _, h => by cases h
  | c :: r, x, h, n, ch, hn => by
    obtain ⟨h1, h2⟩ := pPair_some h
    simp only [injHp] at hn
    cases hb : Nat.beq n c.1
    · rw [hb] at hn
      obtain ⟨s, y, h3, h4⟩ := injHp_some h2 hn
      exact ⟨s, y, List.mem_cons_of_mem _ h3, h4⟩
    · rw [hb] at hn
      have hnc := Nat.eq_of_beq_eq_true hb
      subst hnc
      exact ⟨c.2, x.1, by simp, h1, (Option.some.inj hn).symm⟩
theorem injHp_mem : ∀ {l : List (Nat × CSh)} {x : CShT l} {n : Nat}, (∃ s, (n, s) ∈ l) → ∃ ch, injHp l x n = some ch
  | [], _, _, h => by obtain ⟨_, h⟩ := h; cases h
  | c :: r, x, n, h => by
    simp only [injHp]
    cases hb : Nat.beq n c.1
    · obtain ⟨s, h⟩ := h
      rcases List.mem_cons.1 h with h | h
      · rw [← h, Nat.beq_refl] at hb; cases hb
      · exact injHp_mem ⟨s, h⟩
    · exact ⟨_, rfl⟩
theorem bdGet_mem : ∀ {bd : Bd} {n : Nat} {o : Option Nat}, bdGet bd n = some o → ∃ p ∈ bd, p.1 = n
  | [], _, _, h => by cases h
  | (m, o') :: r, n, o, h => by
    simp only [bdGet] at h
    cases hb : Nat.beq m n
    · rw [hb] at h
      obtain ⟨p, hp, h1⟩ := bdGet_mem h
      exact ⟨p, by simp [hp], h1⟩
    · exact ⟨(m, o'), by simp, Nat.eq_of_beq_eq_true hb⟩
def Ctx.named (R : Ctx) (F' : Nat → Option Obj) (U' : Still) (bd : Bd) (hp : Hp) : Ctx := ⟨F', U', fun n => match bdGet bd n with
  | some (some c) => R.σ c
  | _ => none, hp⟩
section
variable {s : Shape} {R : Ctx} {st : St} {bd : Bd} {ok : Nat → Bool} {F' : Nat → Option Obj} {U' : Still} {x : CShT s.chunks} (hok : s.bdOk st bd = true) (hx : prjChunks bd ok st.hp s.chunks = some x) (hR : R.hp = st.hp)
include hok hx
theorem bd_chunk {n : Nat} {o : Option Nat} (h : bdGet bd n = some o) : ∃ (cs : CSh) (y : cs.T), prjOld bd ok st.hp n cs = some y ∧ injHp s.chunks x n = some ⟨0, injChunk cs y⟩ := by
  obtain ⟨p, hp, rfl⟩ := bdGet_mem h
  unfold Shape.bdOk at hok
  simp only [Bool.and_eq_true, List.all_eq_true, List.any_eq_true] at hok
  obtain ⟨c, hc, hcn⟩ := hok.1.2 p hp
  have := Nat.eq_of_beq_eq_true hcn
  obtain ⟨ch, hch⟩ := injHp_mem (x := x) (n := p.1) ⟨c.2, by rw [← this]; exact hc⟩
  obtain ⟨cs, y, h1, h2, h3⟩ := injHp_some hx hch
  refine ⟨cs, y, h2, ?_⟩
  rw [hch, h3]
  have : cs.ep = 0 := by
    cases cs <;> try rfl
    simp only [prjOld, h] at h2
    exfalso
    split at h2
    · rename_i heq
      split at h2 <;> simp [prjChunk] at h2
    · simp [noChunk] at h2
    · rename_i heq
      cases heq
  rw [this]
theorem now_spec {n c e : Nat} (h : isNow bd st.hp n c e = true) : ∃ b b', st.hp c = some ⟨e, b⟩ ∧ injHp s.chunks x n = some ⟨0, b'⟩ ∧ b'.shape = b.shape ∧ (R.named F' U' bd (injHp s.chunks x)).σ n = R.σ c := by
  unfold isNow at h
  split at h
  · rename_i c' hb
    rw [Bool.and_eq_true] at h
    have := Nat.eq_of_beq_eq_true h.1
    subst this
    have h2 := h.2
    split at h2
    · rename_i ch hch
      have he := Nat.eq_of_beq_eq_true h2
      obtain ⟨cs, y, h3, h4⟩ := bd_chunk hok hx hb
      simp only [prjOld, hb, hch] at h3
      exact ⟨ch.body, _, by rw [hch, ← he], h4, prjChunk_shape h3, by simp only [Ctx.named, hb]⟩
    · cases h2
  · cases h
theorem own_nought {n : Nat} {ad : Option Addr} (h : isNought' bd n = true) : (R.named F' U' bd (injHp s.chunks x)).own n 0 (.slice ad 0 0) := by
  unfold isNought' at h
  split at h
  · rename_i hb
    obtain ⟨cs, y, h3, h4⟩ := bd_chunk hok hx hb
    simp only [prjOld, hb] at h3
    cases cs <;> simp only [noChunk] at h3 <;> try (cases h3; done)
    case row t =>
      cases hz : Nat.blt 0 t.size
      · rw [hz] at h3; cases h3
      · rw [hz] at h3
        cases h3
        refine ⟨_, h4, Nat.le_refl _, fun _ => ⟨_, h4, Nat.le_refl _, fun _ => ?_⟩⟩
        refine ⟨rfl, Nat.le_refl _, ad, 0, rfl, Nat.le_refl _, ?_⟩
        simp only [Ctx.named, hb]
  · cases h
include hR
theorem own_now {n c e : Nat} {v : Value} (h : isNow bd st.hp n c e = true) (hv : R.own c e v) : (R.named F' U' bd (injHp s.chunks x)).own n 0 v := by
  obtain ⟨b, b', h1, h2, h3, h4⟩ := now_spec (R := R) hok hx h
  obtain ⟨h5, h6, ad, cap, h7, h8, h9⟩ := Ctx.part_open (b := b) (by rw [hR]; exact h1) (Ctx.own_part (by rw [hR]; exact h1) hv)
  refine ⟨_, h2, Nat.le_refl _, fun _ => ⟨_, h2, Nat.le_refl _, fun _ => ?_⟩⟩
  rw [h4]
  simp only [h3]
  exact ⟨h5, h6, ad, cap, h7, h8, h9⟩
theorem ptr_now {n c e i off : Nat} {v : Value} (h : isNow bd st.hp n c e = true) (hv : R.ptr c e i off v) : (R.named F' U' bd (injHp s.chunks x)).ptr n 0 i off v := by
  obtain ⟨b, b', h1, h2, h3, h4⟩ := now_spec (R := R) hok hx h
  obtain ⟨ch, g1, g2, g3⟩ := hv
  rw [hR, h1] at g1
  cases g1
  obtain ⟨L, g4, g5⟩ := g3 rfl
  refine ⟨_, h2, Nat.le_refl _, fun _ => ⟨L, by rw [h4]; exact g4, ?_⟩⟩
  simp only [h3]
  exact g5
theorem ptrs_now : ∀ (ns : List Nat) (caps : List SV) (us : List Value), arePtrs bd st.hp ns caps = true → SV.relL R caps us → SV.relL (R.named F' U' bd (injHp s.chunks x)) (ns.map fun n => .ptr n 0 0 0) us
  | [], [], us, _, h => h
  | [], _ :: _, _, h, _ => by cases h
  | n :: ns, [], _, h, _ => by cases h
  | n :: ns, y :: r, us, h, hr => by
    cases y <;> simp only [arePtrs] at h <;> try (cases h; done)
    case ptr c e i off =>
      simp only [Bool.and_eq_true] at h
      obtain ⟨⟨⟨h1, h2⟩, h3⟩, h4⟩ := h
      have e1 := Nat.eq_of_beq_eq_true h2
      have e2 := Nat.eq_of_beq_eq_true h3
      subst e1 e2
      simp only [SV.relL] at hr
      obtain ⟨v, us', rfl, hv, hr⟩ := hr
      simp only [SV.rel] at hv
      simp only [List.map_cons, SV.relL]
      exact ⟨v, us', rfl, by simp only [SV.rel]; exact ⟨hv.1, ptr_now hok hx hR h1 hv.2⟩, ptrs_now ns r us' h4 hr⟩
theorem prjOne_rel {w : World} (hm : HpOk R w) (hF : ∀ b o, R.F b = some o → F' b = some o) (hok' : ∀ c ch L, ok c = true → R.hp c = some ch → R.σ c = some L → F' L.block = w.heap[L.block]?) {sh : Sh} {cs : List SV} {y : sh.T} {us : List Value} (h : prjOne bd ok st.hp sh cs = some y) (hr : SV.relL R cs us) : SV.relL (R.named F' U' bd (injHp s.chunks x)) (injOne sh y) us := by
  cases sh <;> simp only [prjOne] at h
  case val b t =>
    rw [← hR] at h
    exact rel_unpack t y us (rel_packK hm hF hok' t cs y us h hr)
  case own n =>
    replace h := optIf_some h
    obtain ⟨z, rfl⟩ := isOne_single h
    obtain ⟨v, rfl, hv⟩ := relL_one hr
    cases z <;> simp only [isOne, Bool.false_eq_true] at h
    case own c e =>
      simp only [SV.rel] at hv
      exact relL_single (by simp only [SV.rel]; exact ⟨hv.1, own_now hok hx hR h hv.2⟩)
    case emp =>
      simp only [SV.rel] at hv
      obtain ⟨ad, rfl⟩ := hv
      exact relL_single (by simp only [SV.rel]; exact ⟨rfl, own_nought hok hx h⟩)
  case ptr n i off =>
    replace h := optIf_some h
    obtain ⟨z, rfl⟩ := isOne_single h
    obtain ⟨v, rfl, hv⟩ := relL_one hr
    cases z <;> simp only [isOne, Bool.false_eq_true, Bool.and_eq_true] at h
    case ptr c e i' off' =>
      obtain ⟨⟨h1, h2⟩, h3⟩ := h
      have e1 := Nat.eq_of_beq_eq_true h2
      have e2 := Nat.eq_of_beq_eq_true h3
      subst e1 e2
      simp only [SV.rel] at hv
      exact relL_single (by simp only [SV.rel]; exact ⟨hv.1, ptr_now hok hx hR h1 hv.2⟩)
  case fn f ns =>
    replace h := optIf_some h
    obtain ⟨z, rfl⟩ := isOne_single h
    obtain ⟨v, rfl, hv⟩ := relL_one hr
    cases z <;> try (simp only [isOne, Bool.false_eq_true] at h; done)
    case fn g first caps =>
      cases g with
      | func f' =>
        cases first with
        | nil =>
          simp only [isOne, Bool.and_eq_true] at h
          have e1 := Nat.eq_of_beq_eq_true h.1
          subst e1
          simp only [SV.rel] at hv
          obtain ⟨l1, l2, rfl, h3, h4⟩ := hv
          exact relL_single (by simp only [SV.rel]; exact ⟨l1, l2, rfl, h3, ptrs_now hok hx hR ns _ l2 h.2 h4⟩)
        | cons a b => simp [isOne] at h
      | _ => simp [isOne] at h
  case ifp t n =>
    replace h := optIf_some h
    obtain ⟨z, rfl⟩ := isOne_single h
    obtain ⟨v, rfl, hv⟩ := relL_one hr
    cases z <;> try (simp only [isOne, Bool.false_eq_true] at h; done)
    case iface t' q =>
      cases q <;> try (simp only [isOne, Bool.false_eq_true] at h; done)
      case ptr c e i off =>
        simp only [isOne, Bool.and_eq_true] at h
        obtain ⟨h0, h1, h2, h3⟩ := h
        have e0 := Nat.eq_of_beq_eq_true h0
        have e1 := Nat.eq_of_beq_eq_true h2
        have e2 := Nat.eq_of_beq_eq_true h3
        subst e0 e1 e2
        simp only [SV.rel] at hv
        obtain ⟨y, rfl, hy⟩ := hv
        exact relL_single (by simp only [SV.rel]; exact ⟨y, rfl, hy.1, ptr_now hok hx hR h1 hy.2⟩)
  all_goals (
    replace h := optIf_some h
    obtain ⟨z, rfl⟩ := isOne_single h
    obtain ⟨v, rfl, hv⟩ := relL_one hr
    cases z <;> simp only [isOne, Bool.false_eq_true] at h
    simp only [SV.rel] at hv
    exact relL_single (by simp only [SV.rel]; exact hv))
theorem prjCells_rel {w : World} (hm : HpOk R w) (hF : ∀ b o, R.F b = some o → F' b = some o) (hok' : ∀ c ch L, ok c = true → R.hp c = some ch → R.σ c = some L → F' L.block = w.heap[L.block]?) : ∀ {l : List Sh} {cs : List SV} {y : ShT l} {us : List Value}, prjCells bd ok st.hp l cs = some y → SV.relL R cs us → SV.relL (R.named F' U' bd (injHp s.chunks x)) (injCells l y) us
  | [], [], _, _, _, hr => hr
  | [], _ :: _, _, _, h, _ => by cases h
  | sh :: r, cs, y, us, h, hr => by
    obtain ⟨h1, h2⟩ := pPair_some h
    have r1 := prjOne_rel (U' := U') hok hx hR hm hF hok' h1 (SV.relL_take hr sh.size)
    have r2 := prjCells_rel hm hF hok' h2 (SV.relL_drop hr sh.size)
    have := SV.relL_append r1 r2
    rwa [List.take_append_drop] at this
theorem prjSlot_rel {w : World} (hm : HpOk R w) (hF : ∀ b o, R.F b = some o → F' b = some o) (hok' : ∀ c ch L, ok c = true → R.hp c = some ch → R.σ c = some L → F' L.block = w.heap[L.block]?) {sh : Sh} {z : SV} {y : sh.T} {v : Value} (h : prjSlot bd ok st.hp sh z = some y) (hr : SV.rel R z v) : SV.rel (R.named F' U' bd (injHp s.chunks x)) (injSlot sh y) v := by
  unfold prjSlot at h
  unfold injSlot
  cases ha : sh.agg <;> rw [ha] at h
  · have h1 := prjOne_rel (U' := U') hok hx hR hm hF hok' h (relL_single hr)
    simp only [mkVal, Bool.false_eq_true, if_false]
    cases hc : injOne sh y with
    | nil => rw [hc] at h1; simp only [SV.relL] at h1; cases h1
    | cons u l =>
      rw [hc] at h1
      simp only [SV.relL] at h1
      obtain ⟨v', r, he, h2, _⟩ := h1
      cases he
      exact h2
  · cases z <;> simp only [slotCells] at h <;> try (cases h; done)
    case agg l =>
      simp only [SV.rel] at hr
      obtain ⟨vs, rfl, h1, h2⟩ := hr
      exact mkAgg_rel (prjOne_rel hok hx hR hm hF hok' h h1) h2
theorem prjSlots_rel {w : World} (hm : HpOk R w) (hF : ∀ b o, R.F b = some o → F' b = some o) (hok' : ∀ c ch L, ok c = true → R.hp c = some ch → R.σ c = some L → F' L.block = w.heap[L.block]?) {tmps : List Value} (ht : SV.relL R st.tm tmps) : ∀ {l : List (Nat × Sh)} {y : SlT l} {tm : List SV}, prjSlots bd ok st.hp st.tm l = some y →
    SV.relL (R.named F' U' bd (injHp s.chunks x)) tm tmps → SV.relL (R.named F' U' bd (injHp s.chunks x)) (injSlots l y tm) tmps
  | [], _, _, _, h => h
  | c :: r, y, tm, h, htm => by
    obtain ⟨h1, h2⟩ := pPair_some h
    simp only [injSlots]
    refine prjSlots_rel hm hF hok' ht h2 ?_
    by_cases hc : c.1 < st.tm.length
    · have hl := SV.relL_length ht
      have hc' : c.1 < tmps.length := by omega
      have hv := SV.relL_get ht c.1 hc hc'
      have hg : st.tm.getD c.1 .junk = st.tm[c.1] := by simp [List.getD_eq_getElem?_getD, List.getElem?_eq_getElem hc]
      rw [hg] at h1
      have h3 := SV.relL_set htm c.1 (prjSlot_rel hok hx hR hm hF hok' h1 hv)
      rwa [List.set_getElem_self] at h3
    · have : tm.length = st.tm.length := by rw [← SV.relL_length htm, ← SV.relL_length ht]
      rw [List.set_eq_of_length_le (by omega)]
      exact htm
end
end Sx
end Go.Proofs.Ytkedomfjjahjnaa

namespace Go.Proofs.Ytkedomfjjahjnaa
namespace Sx
open Go
theorem prjChunk_mut {bd : Bd} {ok : Nat → Bool} {hp : Hp} {s : CSh} {b : Chunk} {y : s.T} (h : prjChunk bd ok hp s b = some y) : (injChunk s y).mut = b.mut := by
  cases s <;> cases b <;> simp only [prjChunk] at h <;> first | (cases h; done) | rfl
theorem bdGet_mem' : ∀ {bd : Bd} {n : Nat} {o : Option Nat}, bdGet bd n = some o → (n, o) ∈ bd
  | [], _, _, h => by cases h
  | (m, o') :: r, n, o, h => by
    simp only [bdGet] at h
    cases hb : Nat.beq m n
    · rw [hb] at h
      exact List.mem_cons_of_mem _ (bdGet_mem' h)
    · rw [hb] at h
      have := Nat.eq_of_beq_eq_true hb
      subst this
      cases h
      simp
theorem free_bound {l : Bool} {bd : Bd} {n c : Nat} (h : bdGet bd n = some (some c)) : freeOf l bd c = false := by
  have hm := bdGet_mem' h
  unfold freeOf
  have : bd.any (isOld c) = true := List.any_eq_true.2 ⟨_, hm, by simp [isOld]⟩
  rw [this]
  cases l <;> rfl
open Classical in
noncomputable def Ctx.frozen (R : Ctx) (w : World) (ok : Nat → Bool) : Nat → Option Obj := fun b =>
  if ∃ c ch L, ok c = true ∧ R.hp c = some ch ∧ R.σ c = some L ∧ L.block = b then w.heap[b]? else R.F b
theorem frozen_F {R : Ctx} {w : World} (hm : HpOk R w) (ok : Nat → Bool) : ∀ b o, R.F b = some o → R.frozen w ok b = some o := fun b o h => by
  unfold Ctx.frozen
  split
  · exact hm.F b o h
  · exact h
theorem frozen_heap {R : Ctx} {w : World} (hm : HpOk R w) (ok : Nat → Bool) : ∀ b o, R.frozen w ok b = some o → w.heap[b]? = some o := fun b o h => by
  unfold Ctx.frozen at h
  split at h
  · exact h
  · exact hm.F b o h
theorem frozen_ok {R : Ctx} (w : World) (ok : Nat → Bool) : ∀ c ch L, ok c = true → R.hp c = some ch → R.σ c = some L → R.frozen w ok L.block = w.heap[L.block]? := fun c ch L h1 h2 h3 => by
  unfold Ctx.frozen
  rw [if_pos ⟨c, ch, L, h1, h2, h3, rfl⟩]
theorem chunk_block {R : Ctx} {w : World} (hm : HpOk R w) {c : Nat} {ch : Ch} {L : Loc} (hc : R.hp c = some ch) (hσ : R.σ c = some L) :
    (ch.body.mut = true → R.F L.block = none ∧ R.U L.block = none) ∧ (ch.body.mut = false → ∃ o, R.F L.block = some o) := by
  have h := hm.ch c ch hc
  obtain ⟨ep, body⟩ := ch
  cases body with
  | row t xs =>
    simp only [ChOk, hσ] at h
    exact ⟨fun _ => ⟨h.2.2.1, h.2.2.2.1⟩, fun e => (by cases e)⟩
  | frz t xs =>
    simp only [ChOk, hσ] at h
    obtain ⟨_, _, arr, E, fz, h1, _⟩ := h
    exact ⟨fun e => (by cases e), fun _ => ⟨_, h1⟩⟩
  | cells vs =>
    simp only [ChOk] at h
    obtain ⟨L', h0, h1, h2, _⟩ := h
    rw [hσ] at h0
    cases h0
    exact ⟨fun _ => ⟨h1, h2⟩, fun e => (by cases e)⟩
theorem frozen_U {R : Ctx} {w : World} (hm : HpOk R w) (ok : Nat → Bool) : ∀ b o, R.frozen w ok b = some o → R.U b = none := fun b o h => by
  unfold Ctx.frozen at h
  split at h
  · rename_i hq
    obtain ⟨c, ch, L, h1, h2, h3, rfl⟩ := hq
    obtain ⟨k1, k2⟩ := chunk_block hm h2 h3
    cases hmu : ch.body.mut
    · obtain ⟨o', ho⟩ := k2 hmu
      exact hm.FU _ o' ho
    · exact (k1 hmu).2
  · exact hm.FU b o h
theorem frozen_mut {R : Ctx} {w : World} (hm : HpOk R w) {ok : Nat → Bool} {c : Nat} {ch : Ch} {L : Loc} (hc : R.hp c = some ch) (hσ : R.σ c = some L) (hmu : ch.body.mut = true) (hn : ok c = false) : R.frozen w ok L.block = none := by
  unfold Ctx.frozen
  split
  · rename_i hq
    obtain ⟨c', ch', L', h1, h2, h3, h4⟩ := hq
    cases hm' : ch'.body.mut
    · obtain ⟨o', ho⟩ := (chunk_block hm h2 h3).2 hm'
      rw [h4, ((chunk_block hm hc hσ).1 hmu).1] at ho
      cases ho
    · have := hm.apart c' c ch' ch L' L h2 hc hm' hmu h3 hσ h4
      rw [this, hn] at h1
      cases h1
  · exact ((chunk_block hm hc hσ).1 hmu).1
section
variable {s : Shape} {R : Ctx} {st : St} {bd : Bd} {x : CShT s.chunks} (hok : s.bdOk st bd = true) (hx : prjChunks bd (freeOf s.lists bd) st.hp s.chunks = some x) (hR : R.hp = st.hp)
  {w : World} (hm : HpOk R w) {F' : Nat → Option Obj} {U' : Still} (hF : ∀ b o, R.F b = some o → F' b = some o)
  (hok' : ∀ c ch L, freeOf s.lists bd c = true → R.hp c = some ch → R.σ c = some L → F' L.block = w.heap[L.block]?)
  (hmut : ∀ n c ch L, bdGet bd n = some (some c) → R.hp c = some ch → ch.body.mut = true → R.σ c = some L → F' L.block = none ∧ U' L.block = none)
include hok hx hR hm hF hok' hmut
theorem chunk_now {n c : Nat} {cs : CSh} {y : cs.T} {ch : Ch} (hb : bdGet bd n = some (some c)) (hc : R.hp c = some ch) (h : prjChunk bd (freeOf s.lists bd) st.hp cs ch.body = some y) :
    ChOk (R.named F' U' bd (injHp s.chunks x)) w n ⟨cs.ep, injChunk cs y⟩ := by
  have h0 := hm.ch c ch hc
  have hσ : (R.named F' U' bd (injHp s.chunks x)).σ n = R.σ c := by simp only [Ctx.named, hb]
  obtain ⟨ep, body⟩ := ch
  cases cs <;> cases body <;> simp only [prjChunk] at h <;> try (cases h; done)
  case row.row t t' xs =>
    obtain ⟨e, rfl⟩ := rowList_some h
    subst e
    simp only [ChOk, injChunk] at h0 ⊢
    rw [hσ]
    refine ⟨h0.1, h0.2.1, ?_⟩
    cases hL : R.σ c with
    | none => have := h0.2.2; rw [hL] at this; exact this
    | some L =>
      have := h0.2.2
      rw [hL] at this
      obtain ⟨c1, c2, arr, E, c3, c4, c5, c6⟩ := this
      exact ⟨(hmut n c _ L hb hc rfl hL).1, (hmut n c _ L hb hc rfl hL).2, arr, E, c3, c4, c5, fun i hi => Rep_mono hF _ _ _ (c6 i hi)⟩
  case frz.frz t t' xs =>
    obtain ⟨e, rfl⟩ := rowList_some h
    subst e
    simp only [ChOk, injChunk] at h0 ⊢
    rw [hσ]
    refine ⟨h0.1, h0.2.1, ?_⟩
    cases hL : R.σ c with
    | none => have := h0.2.2; rw [hL] at this; exact this
    | some L =>
      have := h0.2.2
      rw [hL] at this
      obtain ⟨arr, E, fz, c3, c4, c5, c6⟩ := this
      exact ⟨arr, E, fz, hF _ _ c3, c4, c5, fun i hi => Rep_mono hF _ _ _ (c6 i hi)⟩
  case cells.cells l vs =>
    simp only [ChOk, injChunk] at h0 ⊢
    obtain ⟨L, h1, h2, h3, arr, E, h4, h5, h6, h7, h8⟩ := h0
    exact ⟨L, by rw [hσ]; exact h1, (hmut n c _ L hb hc rfl h1).1, (hmut n c _ L hb hc rfl h1).2, arr, E, h4, h5, by rw [prjCells_length h]; exact h6, prjCells_rel hok hx hR hm hF hok' h h7, h8⟩
theorem named_ok (heapF : ∀ b o, F' b = some o → w.heap[b]? = some o) (heapU : ∀ b o, U' b = some o → w.heap[b]? = some o) (hFU : ∀ b o, F' b = some o → U' b = none) (henv : Like U'.env w) : HpOk (R.named F' U' bd (injHp s.chunks x)) w := by
  refine ⟨heapF, heapU, fun n ch hn => ?_, fun n n' ch ch' L L' h1 h2 m1 m2 s1 s2 hbl => ?_, hFU, henv⟩
  · obtain ⟨cs, y, hmem, hp, rfl⟩ := injHp_some hx (hn : injHp s.chunks x n = some ch)
    unfold prjOld at hp
    split at hp
    · rename_i c hb
      split at hp
      · rename_i ch hc
        exact chunk_now hok hx hR hm hF hok' hmut hb (by rw [hR]; exact hc) hp
      · cases hp
    · rename_i hb
      cases cs <;> simp only [noChunk] at hp <;> try (cases hp; done)
      case row t =>
        cases hz : Nat.blt 0 t.size
        · rw [hz] at hp; cases hp
        · rw [hz] at hp
          cases hp
          have hσ : (R.named F' U' bd (injHp s.chunks x)).σ n = none := by simp only [Ctx.named, hb]
          simp only [ChOk, injChunk]
          rw [hσ]
          exact ⟨blt_of hz, by simp, trivial⟩
    · rename_i hb
      cases cs <;> simp only [goneChunk] at hp <;> try (cases hp; done)
      have hσ : (R.named F' U' bd (injHp s.chunks x)).σ n = none := by simp only [Ctx.named, hb]
      simp only [ChOk, injChunk]
      rw [hσ]
      exact ⟨by decide, by simp, trivial⟩
  · have key : ∀ (n : Nat) (ch : Ch) (L : Loc), (R.named F' U' bd (injHp s.chunks x)).hp n = some ch → ch.body.mut = true → (R.named F' U' bd (injHp s.chunks x)).σ n = some L →
        ∃ c ch₀ cs, (n, cs) ∈ s.chunks ∧ bdGet bd n = some (some c) ∧ R.hp c = some ch₀ ∧ ch₀.body.mut = true ∧ R.σ c = some L := fun n ch L h m hs => by
      obtain ⟨cs, y, hmem, hp, rfl⟩ := injHp_some hx (h : injHp s.chunks x n = some ch)
      unfold prjOld at hp
      simp only [Ctx.named] at hs
      split at hp
      · rename_i c hb
        rw [hb] at hs
        split at hp
        · rename_i ch hc
          exact ⟨c, ch, cs, hmem, hb, by rw [hR]; exact hc, by rw [← prjChunk_mut hp]; exact m, hs⟩
        · cases hp
      · rename_i hb
        rw [hb] at hs
        cases hs
      · rename_i hb
        rw [hb] at hs
        cases hs
    obtain ⟨c, c₀, cs, a1, a2, a3, a4, a5⟩ := key n ch L h1 m1 s1
    obtain ⟨c', c₀', cs', b1, b2, b3, b4, b5⟩ := key n' ch' L' h2 m2 s2
    have hcc := hm.apart c c' c₀ c₀' L L' a3 b3 a4 b4 a5 b5 hbl
    subst hcc
    unfold Shape.bdOk at hok
    simp only [Bool.and_eq_true, List.all_eq_true] at hok
    have h3 := hok.1.1.2 _ a1 _ b1
    simp only [a2, b2, Bool.or_eq_true, Nat.beq_refl, Bool.not_true, Bool.false_eq_true, or_false] at h3
    exact Nat.eq_of_beq_eq_true h3
end
def Small (R : Ctx) (k : Nat) : Prop := ∀ c ch, R.hp c = some ch → c < k ∧ ch.ep = 0
theorem Shape.weak {s : Shape} {R₀ R : Ctx} {st : St} {a : Act} {w : World} {x : s.T} (h0 : Small R₀ s.fixed) (hx : R₀.Ext R) (h : StOk R st a w) (hp : s.prj st = some x) :
    ∃ R', R₀.Ext R' ∧ StOk R' (s.inj x) a w := by
  unfold Shape.prj at hp
  dsimp only at hp
  cases hb : s.bdOk st (s.bd st) && Nat.beq st.tm.length s.n
  · rw [hb] at hp; cases hp
  · rw [hb] at hp
    rw [Bool.and_eq_true] at hb
    obtain ⟨h1, h2⟩ := pPair_some hp
    have hlen := Nat.eq_of_beq_eq_true hb.2
    refine ⟨R.named (R.frozen w (freeOf s.lists (s.bd st))) R.U (s.bd st) (injHp s.chunks x.2), ⟨fun b o h' => frozen_F h.mem _ b o (hx.F b o h'), hx.U, fun c ch hc => ?_⟩, rfl, named_ok hb.1 h2 h.hp h.mem (frozen_F h.mem _) (frozen_ok w _) (fun n c ch L k1 k2 k3 k4 => ⟨frozen_mut h.mem k2 k4 k3 (free_bound k1), ((chunk_block h.mem k2 k4).1 k3).2⟩) (frozen_heap h.mem _) h.mem.U (frozen_U h.mem _) h.mem.env, ?_, h.defers⟩
    · obtain ⟨hlt, hep⟩ := h0 c ch hc
      have hok := hb.1
      unfold Shape.bdOk at hok
      simp only [Bool.and_eq_true, List.all_eq_true] at hok
      have h3 := hok.2 c (by simpa using hlt)
      obtain ⟨ch1, g1, g2, g3⟩ := hx.ch c ch hc
      split at h3
      · rename_i c' hbd
        have h4 := (Bool.and_eq_true _ _ ▸ h3 : _ ∧ _)
        have := Nat.eq_of_beq_eq_true h4.1
        subst this
        have hnow : isNow (s.bd st) st.hp c' c' 0 = true := by
          unfold isNow
          rw [hbd]
          exact h3
        obtain ⟨b, b', k1, k2, k3, k4⟩ := now_spec (R := R) hb.1 h2 hnow
        rw [h.hp, k1] at g1
        cases g1
        exact ⟨_, k2, g2, fun he => ⟨by have := (g3 he).1; exact k3.trans this, k4.trans (g3 he).2⟩⟩
      · cases h3
      · rename_i hbd
        obtain ⟨q, hq, hq'⟩ := List.any_eq_true.1 h3
        rw [Bool.and_eq_true] at hq'
        have e1 := Nat.eq_of_beq_eq_true hq'.1
        obtain ⟨ch2, hch2⟩ := injHp_mem (x := x.2) (n := c) ⟨q.2, by rw [← e1]; exact hq⟩
        obtain ⟨cs, y, k1, k2, k3⟩ := injHp_some h2 hch2
        have hg : cs = .gone := by
          simp only [prjOld, hbd] at k2
          cases cs <;> first | rfl | (simp [goneChunk] at k2; done)
        subst hg
        refine ⟨ch2, hch2, ?_, fun he => ?_⟩
        · rw [k3, hep]; exact Nat.zero_le _
        · rw [k3, hep] at he; cases he
    · refine prjSlots_rel hb.1 h2 h.hp h.mem (frozen_F h.mem _) (frozen_ok w _) h.tm h1 (SV.relL_of ?_ fun i hi hi' => ?_)
      · rw [List.length_replicate, ← hlen]
        exact SV.relL_length h.tm
      · simp [SV.rel]
end Sx
end Go.Proofs.Ytkedomfjjahjnaa

namespace Go.Proofs.Ytkedomfjjahjnaa
namespace Sx
open Go
def exitIn (id : Nat) : SE → SE
  | .exit j => cond (Nat.beq j id) .normal (.exit j)
  | e => e
def endK (xs : SE → Option Shape) (id : Nat) (K : SE → St → Prop) (e : SE) (st : St) : Prop := match xs e with
  | none => K (exitIn id e) st
  | some s => s.on st fun x => K (exitIn id e) (s.inj x)
def bodyK (sh : Shape) (xs : SE → Option Shape) (id : Nat) (Inv : sh.T → Prop) (μ : sh.T → Nat) (fin : sh.T → (SE → St → Prop) → Prop) (s : sh.T) (K : SE → St → Prop) (e : SE) (st : St) : Prop := match e with
  | .normal => sh.on st fun s' => Inv s' ∧ μ s' < μ s ∧ fin s' K
  | e => endK xs id K e st
def loopL (sh : Shape) (Inv : sh.T → Prop) (fin : sh.T → (SE → St → Prop) → Prop) (st : St) (K : SE → St → Prop) : Prop := sh.on st fun s => Inv s ∧ fin s K
theorem Shape.on_weak {s : Shape} {R₀ R : Ctx} {st : St} {a : Act} {w : World} {k : s.T → Prop} (h0 : Small R₀ s.fixed) (hx : R₀.Ext R) (h : StOk R st a w) (hp : s.on st k) :
    ∃ x R', k x ∧ R₀.Ext R' ∧ StOk R' (s.inj x) a w := by
  unfold Shape.on at hp
  split at hp
  · rename_i x hq
    obtain ⟨R', h1, h2⟩ := Shape.weak h0 hx h hq
    exact ⟨x, R', hp, h1, h2⟩
  · exact hp.elim
section
variable {P : Program} {te : TE} {Φ : Env} (hte : TeOk P te) (hΦ : EnvOk P Φ) (hany : AnyOk P te Φ)
include hte hΦ hany
theorem block_ok {R₀ : Ctx} {sh : Shape} (h0 : Small R₀ sh.fixed) {xs : SE → Option Shape} (hxs : ∀ e s, xs e = some s → Small R₀ s.fixed) (hpan : ∀ v, xs (.pan v) = none) {Λ : Lam} {body : Code} (hΛ : LamOk P R₀ Λ body)
    {id n : Nat} {Inv : sh.T → Prop} {μ : sh.T → Nat} {fin : sh.T → (SE → St → Prop) → Prop}
    (hw : ∀ s K, Inv s → fin s K → wps te Φ Λ n body (sh.inj s) (bodyK sh xs id Inv μ fin s K)) : BlockOk P R₀ (.block id (.loop body)) (loopL sh Inv fin) := by
  intro R st a w K Q hx hst hl hK
  obtain ⟨s, R', ⟨hi, hf⟩, hx', hst'⟩ := Shape.on_weak h0 hx hst hl
  refine wp_block (wp_of_loopIn ?_)
  clear hl hst hx
  have ends : ∀ (e : SE) (R : Ctx) (st : St) (a : Act) (w : World), R₀.Ext R → StOk R st a w → endK xs id K e st → ∃ R' st', R₀.Ext R' ∧ StOk R' st' a w ∧ R.F = R.F ∧ K (exitIn id e) st' := fun e R st a w hx hst hk => by
    unfold endK at hk
    split at hk
    · exact ⟨R, st, hx, hst, rfl, hk⟩
    · rename_i sh' he
      obtain ⟨x, R', h1, h2, h3⟩ := Shape.on_weak (hxs e sh' he) hx hst hk
      exact ⟨R', _, h2, h3, rfl, h1⟩
  generalize hm : μ s = m
  induction m using Nat.strongRecOn generalizing s R' a w with
  | ind m ih =>
    refine loopIn_step (wps_sound (R₀ := R₀) hte hΦ hany hΛ hx' hst' (hw s K hi hf) ⟨?_, ?_, ?_, ?_⟩)
    · intro R1 st1 a1 w1 hx1 hst1 hk
      obtain ⟨s', R2, ⟨g1, g2, g3⟩, g4, g5⟩ := Shape.on_weak h0 hx1 hst1 (hk : sh.on st1 _)
      exact ih (μ s') (by rw [← hm]; exact g2) a1 w1 s' R2 g1 g3 g4 g5 rfl
    · intro R1 st1 a1 w1 hx1 hst1 hk
      obtain ⟨R2, st2, g1, g2, _, g3⟩ := ends .ret R1 st1 a1 w1 hx1 hst1 hk
      exact hK.ret R2 st2 a1 w1 g1 g2 g3
    · intro R1 st1 a1 w1 j hx1 hst1 hk
      obtain ⟨R2, st2, g1, g2, _, g3⟩ := ends (.exit j) R1 st1 a1 w1 hx1 hst1 hk
      simp only [exitIn] at g3
      simp only [Exit.inBlock]
      by_cases e : j = id
      · subst e
        rw [Nat.beq_refl, cond_true] at g3
        simp only [if_true]
        exact hK.normal R2 st2 a1 w1 g1 g2 g3
      · have hb : Nat.beq j id = false := by
          cases hq : Nat.beq j id
          · rfl
          · exact absurd (Nat.eq_of_beq_eq_true hq) e
        rw [hb, cond_false] at g3
        simp only [e, if_false]
        exact hK.exit R2 st2 a1 w1 j g1 g2 g3
    · intro R1 st1 a1 w1 sv v hx1 hst1 hv hk
      have hk' : endK xs id K (.pan sv) st1 := hk
      unfold endK at hk'
      rw [hpan] at hk'
      exact hK.pan R1 st1 a1 w1 sv v hx1 hst1 hv hk'
end
def bodyAt : List (Nat × Code) → Nat → Code
  | [], _ => .skip
  | (i, c) :: r, id => cond (Nat.beq i id) c (bodyAt r id)
def bodyOf (c : Code) (id : Nat) : Code := bodyAt (blocks c) id
def loopOf (c : Code) (id : Nat) : Code := match bodyOf c id with
  | .loop b => b
  | c => c
def isLoop (c : Code) (id : Nat) : Bool := match bodyOf c id with
  | .loop _ => true
  | _ => false
theorem loopOf_spec {c : Code} {id : Nat} (h : isLoop c id = true) : bodyOf c id = .loop (loopOf c id) := by
  unfold isLoop at h
  unfold loopOf
  split at h
  · rename_i b hb
    rw [hb]
  · cases h
theorem bodyAt_mem : ∀ {l : List (Nat × Code)}, distinct (l.map (·.1)) = true → ∀ p ∈ l, bodyAt l p.1 = p.2
  | [], _, p, hp => by cases hp
  | q :: r, h, p, hp => by
    simp only [List.map_cons, distinct, Bool.and_eq_true, Bool.not_eq_true'] at h
    simp only [bodyAt]
    rcases List.mem_cons.1 hp with he | he
    · subst he
      rw [Nat.beq_refl]; rfl
    · have : Nat.beq q.1 p.1 = false := by
        cases hq : Nat.beq q.1 p.1
        · rfl
        · have := h.1
          rw [List.any_eq_false] at this
          exact absurd hq (this p.1 (List.mem_map.2 ⟨p, he, rfl⟩))
      rw [this]
      exact bodyAt_mem h.2 p he
def lamCons (id : Nat) (l : St → (SE → St → Prop) → Prop) (Λ : Lam) : Lam := fun j => cond (Nat.beq j id) (some l) (Λ j)
def lamNil : Lam := fun _ => none
theorem lamOk_nil {P : Program} {R₀ : Ctx} {c : Code} : LamOk P R₀ lamNil c := fun _ _ _ h => by cases h
theorem lamOk_cons {P : Program} {R₀ : Ctx} {c : Code} (hd : distinct ((blocks c).map (·.1)) = true) {id : Nat} {l : St → (SE → St → Prop) → Prop} {Λ : Lam} (hl : isLoop c id = true) (h : BlockOk P R₀ (.block id (.loop (loopOf c id))) l) (hΛ : LamOk P R₀ Λ c) :
    LamOk P R₀ (lamCons id l Λ) c := fun p hp l' hl' => by
  unfold lamCons at hl'
  cases hb : Nat.beq p.1 id
  · rw [hb] at hl'; exact hΛ p hp l' hl'
  · rw [hb] at hl'
    cases hl'
    have e := Nat.eq_of_beq_eq_true hb
    have := bodyAt_mem hd p hp
    rw [← this, e]
    have h2 := loopOf_spec hl
    unfold bodyOf at h2
    rw [h2]
    exact h
end Sx
end Go.Proofs.Ytkedomfjjahjnaa

namespace Go.Proofs.Ytkedomfjjahjnaa
namespace Sx
open Go
abbrev Nm := Nat → Nat × Nat
def injOneN (ν : Nm) : (s : Sh) → s.T → List SV
  | .val _ t, x => unpack t x
  | .own n, _ => [.own (ν n).1 (ν n).2]
  | .ptr n i off, _ => [.ptr (ν n).1 (ν n).2 i off]
  | .fn f ns, _ => [.fn (.func f) [] (ns.map fun n => .ptr (ν n).1 (ν n).2 0 0)]
  | .ifp t n, _ => [.iface t (.ptr (ν n).1 (ν n).2 0 0)]
  | .nilp, _ => [.nilp]
  | .niface, _ => [.niface]
  | .undef, _ => [.undef]
def injSlotN (ν : Nm) (s : Sh) (x : s.T) : SV := mkVal s.agg (injOneN ν s x)
def injCellsN (ν : Nm) : (l : List Sh) → ShT l → List SV
  | [], _ => []
  | s :: r, x => injOneN ν s x.1 ++ injCellsN ν r x.2
def injChunkN (ν : Nm) : (s : CSh) → s.T → Chunk
  | .row t, xs => .row t xs
  | .frz t, xs => .frz t xs
  | .cells l, x => .cells (injCellsN ν l x)
  | .gone, _ => .row .u8 []
structure OutSh where
  rs : List Sh
  chunks : List (Nat × CSh)
  pan : Bool
def indexed : Nat → List Sh → List (Nat × Sh)
  | _, [] => []
  | i, s :: r => (i, s) :: indexed (i + 1) r
def OutSh.shape (o : OutSh) (fixed : Nat) : Shape := ⟨o.rs.length, indexed 0 o.rs, o.chunks, fixed, true⟩
def resL (n : Nat) (v : SV) : List SV := cond (Nat.beq n 1) [v] (match v with
  | .tup l => l
  | _ => List.replicate (n + 1) .junk)
structure FnSpec where
  as : List Sh
  chunks : List (Nat × CSh)
  borrow : Bool
  fixed : Nat
  mod : Bool
def FnSpec.inp (S : FnSpec) : Shape := ⟨S.as.length, indexed 0 S.as, S.chunks, 0, S.borrow⟩
abbrev FnSpec.T (S : FnSpec) : Type := S.inp.T
abbrev FnSpec.Y (S : FnSpec) : Type := Sigma fun o : OutSh => (o.shape S.fixed).T
def epOf (hp : Hp) (c : Nat) : Nat := match hp c with
  | some ch => ch.ep
  | none => 0
def nameOf (bd : Bd) (n : Nat) : Nat := match bdGet bd n with
  | some (some c) => c
  | _ => 0
def FnSpec.nm (S : FnSpec) (bd : Bd) (hp : Hp) (base : Nat) : Nm := fun n => cond (Nat.blt n S.fixed) (nameOf bd n, epOf hp (nameOf bd n)) (base + (n - S.fixed), 0)
def updIn (ν : Nm) : (l : List (Nat × CSh)) → CShT l → List (Nat × Ch)
  | [], _ => []
  | c :: r, x => ((ν c.1).1, ⟨(ν c.1).2, injChunkN ν c.2 x.1⟩) :: updIn ν r x.2
def updGone (bd : Bd) (hp : Hp) (fixed : Nat) : List (Nat × CSh) → List (Nat × Ch)
  | [] => []
  | c :: r => cond (Nat.blt c.1 fixed) (updGone bd hp fixed r) (match bdGet bd c.1 with
    | some (some o) => (o, ⟨epOf hp o + 1, .row .u8 []⟩) :: updGone bd hp fixed r
    | _ => updGone bd hp fixed r)
def Ty.hasList : Ty → Bool
  | .list _ => true
  | .prod a b => a.hasList || b.hasList
  | .arr _ t => t.hasList
  | _ => false
def Sh.hasList : Sh → Bool
  | .val _ t => t.hasList
  | _ => false
def CSh.hasList : CSh → Bool
  | .row t => t.hasList
  | .frz t => t.hasList
  | .cells l => l.any Sh.hasList
  | .gone => false
def CSh.isFrz : CSh → Bool
  | .frz _ => true
  | _ => false
def FnSpec.endOk (S : FnSpec) (bd : Bd) (hp : Hp) (base : Nat) (o : OutSh) : Bool :=
  (!S.borrow || !(o.rs.any Sh.hasList || o.chunks.any fun c => c.2.hasList || (c.2.isFrz && !Nat.blt c.1 S.fixed))) &&
  ((List.range S.fixed).all (fun k => (match bdGet bd k with
    | some (some _) => true
    | _ => false) && o.chunks.any fun c => Nat.beq c.1 k) &&
  ((o.chunks.all fun c => S.chunks.all fun c' => !Nat.beq c.1 c'.1 || !Nat.blt c.1 S.fixed || (c.2.isFrz == c'.2.isFrz)) &&
  o.chunks.all fun c => !c.2.isGone && (Nat.blt c.1 S.fixed || (Nat.blt (c.1 - S.fixed) 64 && (hp (base + (c.1 - S.fixed))).isNone))))
def FnSpec.emit (S : FnSpec) (bd : Bd) (d : Nat) (hp : Hp) (o : OutSh) (y : (o.shape S.fixed).T) : OT Out :=
  let base := fresh hp d
  let ν := S.nm bd hp base
  let v := oneOf ((indexedN ν o.rs) y.1)
  let u := updGone bd hp S.fixed S.chunks ++ updIn ν o.chunks y.2
  .guard (S.endOk bd hp base o) (.ok (cond o.pan (.pan v u) (.ret ⟨v, u⟩)))
where
  indexedN (ν : Nm) (rs : List Sh) : SlT (indexed 0 rs) → List SV := go ν 0 rs
  go (ν : Nm) : (i : Nat) → (rs : List Sh) → SlT (indexed i rs) → List SV
    | _, [], _ => []
    | i, s :: r, y => injSlotN ν s y.1 :: go ν (i + 1) r y.2
def FnSpec.summ (S : FnSpec) (pre : S.T → Bool) (F : S.T → OT S.Y) : Summ := ⟨S.mod, fun d args hp =>
  match S.inp.prj ⟨args, hp⟩ with
  | none => .fail
  | some x => .guard (pre x) ((F x).bind fun oy => S.emit (S.inp.bd ⟨args, hp⟩) d hp oy.1 oy.2)⟩
def OutSh.is {fixed : Nat} (o : OutSh) (y : (o.shape fixed).T) (pan : Bool) (v : SV) (hp : Hp) : Prop :=
  o.pan = pan ∧ (o.shape fixed).prj ⟨resL o.rs.length v, hp⟩ = some y
end Sx
end Go.Proofs.Ytkedomfjjahjnaa

namespace Go.Proofs.Ytkedomfjjahjnaa
namespace Sx
open Go
def Ctx.bound (R : Ctx) (bd : Bd) (b : Nat) : Prop := ∃ n c ch L, bdGet bd n = some (some c) ∧ R.hp c = some ch ∧ ch.body.mut = true ∧ R.σ c = some L ∧ L.block = b
open Classical in
noncomputable def Ctx.insF (R : Ctx) (bd : Bd) (borrow : Bool) (w : World) : Nat → Option Obj := fun b =>
  if R.bound bd b then none else if borrow = true then w.heap[b]? else R.F b
open Classical in
noncomputable def Ctx.insU (R : Ctx) (bd : Bd) (borrow : Bool) (w : World) : Still := ⟨fun b =>
  if R.bound bd b ∨ borrow = true ∨ (∃ o, R.F b = some o) then none else w.heap[b]?, R.U.env⟩
section
variable {R : Ctx} {w : World} (hm : HpOk R w) {bd : Bd} {borrow : Bool}
include hm
theorem bound_F {b : Nat} (h : R.bound bd b) : R.F b = none ∧ R.U b = none := by
  obtain ⟨n, c, ch, L, h1, h2, h3, h4, rfl⟩ := h
  exact (chunk_block hm h2 h4).1 h3
theorem insF_F : ∀ b o, R.F b = some o → R.insF bd borrow w b = some o := fun b o h => by
  unfold Ctx.insF
  split
  · rename_i hb
    rw [(bound_F hm hb).1] at h
    cases h
  · split
    · exact hm.F b o h
    · exact h
theorem insF_heap : ∀ b o, R.insF bd borrow w b = some o → w.heap[b]? = some o := fun b o h => by
  unfold Ctx.insF at h
  split at h
  · cases h
  · split at h
    · exact h
    · exact hm.F b o h
theorem insF_ok : ∀ c ch L, freeOf borrow bd c = true → R.hp c = some ch → R.σ c = some L → R.insF bd borrow w L.block = w.heap[L.block]? := fun c ch L h1 h2 h3 => by
  have hb : borrow = true := by
    unfold freeOf at h1
    rw [Bool.and_eq_true] at h1
    exact h1.1
  unfold Ctx.insF
  split
  · rename_i hq
    obtain ⟨n, c', ch', L', k1, k2, k3, k4, k5⟩ := hq
    cases hmu : ch.body.mut
    · obtain ⟨o, ho⟩ := (chunk_block hm h2 h3).2 hmu
      rw [← k5, ((chunk_block hm k2 k4).1 k3).1] at ho
      cases ho
    · have := hm.apart c' c ch' ch L' L k2 h2 k3 hmu k4 h3 k5
      rw [this] at k1
      rw [free_bound k1] at h1
      cases h1
  · first | rfl | rw [if_pos hb]
omit hm in
theorem insU_heap : ∀ b o, R.insU bd borrow w b = some o → w.heap[b]? = some o := fun b o h => by
  unfold Ctx.insU at h
  dsimp only at h
  split at h
  · cases h
  · exact h
omit hm in
theorem ins_FU : ∀ b o, R.insF bd borrow w b = some o → R.insU bd borrow w b = none := fun b o h => by
  unfold Ctx.insU
  dsimp only
  split
  · rfl
  · rename_i hq
    unfold Ctx.insF at h
    rw [if_neg (fun hb => hq (.inl hb)), if_neg (fun hb => hq (.inr (.inl hb)))] at h
    exact absurd (.inr (.inr ⟨o, h⟩)) hq
omit hm in
theorem ins_mut : ∀ n c ch L, bdGet bd n = some (some c) → R.hp c = some ch → ch.body.mut = true → R.σ c = some L → R.insF bd borrow w L.block = none ∧ R.insU bd borrow w L.block = none := fun n c ch L h1 h2 h3 h4 => by
  have hb : R.bound bd L.block := ⟨n, c, ch, L, h1, h2, h3, h4, rfl⟩
  exact ⟨by unfold Ctx.insF; rw [if_pos hb], by unfold Ctx.insU; dsimp only; rw [if_pos (.inl hb)]⟩
theorem stays {F₂ : Nat → Option Obj} {U₂ : Still} {w' : World} (hF : ∀ b o, R.insF bd borrow w b = some o → F₂ b = some o) (hU : U₂ = R.insU bd borrow w) (h1 : ∀ b o, F₂ b = some o → w'.heap[b]? = some o) (h2 : ∀ b o, U₂ b = some o → w'.heap[b]? = some o) :
    ∀ b, b < w.heap.size → ¬ R.bound bd b → w'.heap[b]? = w.heap[b]? := fun b hb hn => by
  have hs : w.heap[b]? = some w.heap[b] := by simp [hb]
  by_cases hbo : borrow = true
  · have : R.insF bd borrow w b = some w.heap[b] := by
      unfold Ctx.insF
      rw [if_neg hn, if_pos hbo, hs]
    rw [h1 _ _ (hF _ _ this), hs]
  · by_cases hRF : ∃ o, R.F b = some o
    · obtain ⟨o, ho⟩ := hRF
      have := hm.F b o ho
      rw [h1 _ _ (hF _ _ (insF_F hm b o ho)), this]
    · have : R.insU bd borrow w b = some w.heap[b] := by
        unfold Ctx.insU
        dsimp only
        rw [if_neg (by rintro (h | h | h); exact hn h; exact hbo h; exact hRF h), hs]
      rw [← hU] at this
      rw [h2 _ _ this, hs]
end
end Sx
end Go.Proofs.Ytkedomfjjahjnaa

namespace Go.Proofs.Ytkedomfjjahjnaa
namespace Sx
open Go
structure Renames (N R : Ctx) (ν : Nm) (lists : Bool) : Prop where
  hp : ∀ n ch, N.hp n = some ch → ch.ep = 0 ∧ ∃ ch', R.hp (ν n).1 = some ch' ∧ ch'.ep = (ν n).2 ∧ ch'.body.shape = ch.body.shape ∧ R.σ (ν n).1 = N.σ n
  F : lists = true → ∀ b o, N.F b = some o → R.F b = some o
theorem Rep_noList {F F' : Nat → Option Obj} : ∀ (t : Ty) (_ : t.hasList = false) (x : t.T) (cs : List Value), Rep F t x cs → Rep F' t x cs
  | .bool, _, _, _, h => h
  | .u64, _, _, _, h => h
  | .u8, _, _, _, h => h
  | .int, _, _, _, h => h
  | .str, _, _, _, h => h
  | .elem, _, _, _, h => h
  | .prod a b, hp, x, cs, h => by
    simp only [Ty.hasList, Bool.or_eq_false_iff] at hp
    exact ⟨h.1, Rep_noList a hp.1 _ _ h.2.1, Rep_noList b hp.2 _ _ h.2.2⟩
  | .arr n t, hp, x, cs, h => ⟨h.1, h.2.1, fun i hi => Rep_noList t hp _ _ (h.2.2 i hi)⟩
def SV.still : SV → Bool
  | .bool _ | .u64 _ | .u8 _ | .int _ | .str _ | .lst .. => true
  | _ => false
theorem still_rel {R R' : Ctx} (hF : ∀ b o, R.F b = some o → R'.F b = some o) : ∀ {x : SV} {v : Value}, x.still = true → SV.rel R x v → SV.rel R' x v := by
  intro x v hf h
  cases x <;> first | (cases hf; done) | (simp only [SV.rel] at h ⊢; first | exact h | exact Rep_mono hF _ _ _ h)
theorem still_relL {R R' : Ctx} (hF : ∀ b o, R.F b = some o → R'.F b = some o) : ∀ {l : List SV} {vs : List Value}, l.all SV.still = true → SV.relL R l vs → SV.relL R' l vs
  | [], vs, _, h => by simpa only [SV.relL] using h
  | x :: l, vs, hf, h => by
    simp only [List.all_cons, Bool.and_eq_true] at hf
    simp only [SV.relL] at h ⊢
    obtain ⟨v, r, h1, h2, h3⟩ := h
    exact ⟨v, r, h1, still_rel hF hf.1 h2, still_relL hF hf.2 h3⟩
theorem unpack_still : ∀ (t : Ty) (x : t.T), (unpack t x).all SV.still = true
  | .bool, _ => rfl
  | .u64, _ => rfl
  | .u8, _ => rfl
  | .int, _ => rfl
  | .str, _ => rfl
  | .elem, _ => rfl
  | .prod a b, x => by simp only [unpack, List.all_append, unpack_still a, unpack_still b, Bool.and_self]
  | .arr n t, x => by
    simp only [unpack, List.all_flatMap, List.all_eq_true]
    intro i _
    simpa [List.all_eq_true] using unpack_still t _
  | .list t, _ => rfl
theorem plain_of_noList : ∀ {t : Ty}, t.hasList = false → t.plain = true
  | .bool, _ => rfl
  | .u64, _ => rfl
  | .u8, _ => rfl
  | .int, _ => rfl
  | .str, _ => rfl
  | .elem, _ => rfl
  | .prod a b, h => by
    simp only [Ty.hasList, Bool.or_eq_false_iff] at h
    simp only [Ty.plain, plain_of_noList h.1, plain_of_noList h.2, Bool.and_self]
  | .arr n t, h => plain_of_noList (t := t) h
section
variable {N R : Ctx} {ν : Nm} {lists : Bool} (hr : Renames N R ν lists)
include hr
theorem own_renamed {n : Nat} {v : Value} (h : N.own n 0 v) : R.own (ν n).1 (ν n).2 v := by
  obtain ⟨ch, hc, _, h⟩ := h
  obtain ⟨he, ch', k1, k2, k3, k4⟩ := hr.hp n ch hc
  obtain ⟨ch2, hc2, _, h2⟩ := h he.symm
  rw [hc] at hc2
  cases hc2
  obtain ⟨h5, h6, ad, cap, h7, h8, h9⟩ := h2 he.symm
  refine ⟨ch', k1, by omega, fun _ => ⟨ch', k1, by omega, fun _ => ?_⟩⟩
  rw [k4, k3]
  exact ⟨h5, h6, ad, cap, h7, h8, h9⟩
theorem ptr_renamed {n i off : Nat} {v : Value} (h : N.ptr n 0 i off v) : R.ptr (ν n).1 (ν n).2 i off v := by
  obtain ⟨ch, hc, _, h⟩ := h
  obtain ⟨he, ch', k1, k2, k3, k4⟩ := hr.hp n ch hc
  obtain ⟨L, h1, h2⟩ := h he.symm
  exact ⟨ch', k1, by omega, fun _ => ⟨L, by rw [k4]; exact h1, by rw [k3]; exact h2⟩⟩
theorem ptrs_renamed : ∀ (ns : List Nat) (us : List Value), SV.relL N (ns.map fun n => .ptr n 0 0 0) us → SV.relL R (ns.map fun n => .ptr (ν n).1 (ν n).2 0 0) us
  | [], us, h => h
  | n :: ns, us, h => by
    simp only [List.map_cons, SV.relL, SV.rel] at h ⊢
    obtain ⟨v, us', rfl, h1, h2⟩ := h
    exact ⟨v, us', rfl, ⟨h1.1, ptr_renamed hr h1.2⟩, ptrs_renamed ns us' h2⟩
theorem unpack_renamed {t : Ty} (hl : lists = true ∨ t.hasList = false) {x : t.T} {us : List Value} (h : SV.relL N (unpack t x) us) : SV.relL R (unpack t x) us := by
  rcases hl with hl | hl
  · exact still_relL (hr.F hl) (unpack_still t x) h
  · exact flat_relL (unpack_flat t (plain_of_noList hl) x) h
theorem one_renamed {s : Sh} (hl : lists = true ∨ s.hasList = false) {y : s.T} {us : List Value} (h : SV.relL N (injOne s y) us) : SV.relL R (injOneN ν s y) us := by
  cases s <;> simp only [injOne, injOneN] at h ⊢
  case val b t => exact unpack_renamed hr hl h
  case own n =>
    obtain ⟨v, rfl, hv⟩ := relL_one h
    simp only [SV.rel] at hv
    exact relL_single (by simp only [SV.rel]; exact ⟨hv.1, own_renamed hr hv.2⟩)
  case ptr n i off =>
    obtain ⟨v, rfl, hv⟩ := relL_one h
    simp only [SV.rel] at hv
    exact relL_single (by simp only [SV.rel]; exact ⟨hv.1, ptr_renamed hr hv.2⟩)
  case fn f ns =>
    obtain ⟨v, rfl, hv⟩ := relL_one h
    simp only [SV.rel] at hv
    obtain ⟨l1, l2, rfl, h3, h4⟩ := hv
    exact relL_single (by simp only [SV.rel]; exact ⟨l1, l2, rfl, by simpa only [SV.relL] using h3, ptrs_renamed hr ns l2 h4⟩)
  case ifp t n =>
    obtain ⟨v, rfl, hv⟩ := relL_one h
    simp only [SV.rel] at hv
    obtain ⟨y, rfl, hy⟩ := hv
    exact relL_single (by simp only [SV.rel]; exact ⟨y, rfl, hy.1, ptr_renamed hr hy.2⟩)
  all_goals (
    obtain ⟨v, rfl, hv⟩ := relL_one h
    simp only [SV.rel] at hv
    exact relL_single (by simp only [SV.rel]; exact hv))
omit hr in
theorem injOneN_length {s : Sh} {y : s.T} : (injOneN ν s y).length = (injOne s y).length := by
  cases s <;> rfl
theorem slot_renamed {s : Sh} (hl : lists = true ∨ s.hasList = false) {y : s.T} {v : Value} (h : SV.rel N (injSlot s y) v) : SV.rel R (injSlotN ν s y) v := by
  unfold injSlot at h
  unfold injSlotN
  unfold mkVal at h ⊢
  cases ha : s.agg <;> rw [ha] at h
  · simp only [Bool.false_eq_true, if_false] at h ⊢
    cases s
    case val b t =>
      simp only [injOne, injOneN] at h ⊢
      cases hc : unpack t y with
      | nil => simp [SV.rel]
      | cons u l =>
        rw [hc] at h
        rcases hl with hl | hl
        · have := unpack_still t y
          rw [hc] at this
          simp only [List.all_cons, Bool.and_eq_true] at this
          exact still_rel (hr.F hl) this.1 h
        · have := unpack_flat t (plain_of_noList hl) y
          rw [hc] at this
          simp only [List.all_cons, Bool.and_eq_true] at this
          exact flat_rel this.1 h
    all_goals (
      have h1 := one_renamed (y := y) hr hl (relL_single h)
      obtain ⟨v', he, hv⟩ := relL_one h1
      cases he
      exact hv)
  · simp only [if_true, SV.rel] at h ⊢
    obtain ⟨vs, h1, h2, h3⟩ := h
    exact ⟨vs, h1, one_renamed hr hl h2, h3⟩
end
end Sx
end Go.Proofs.Ytkedomfjjahjnaa
