/- A symbolic machine for Go code over plain data, and functions of the program as it shows them. No statement is proved in this file. -/
import Derived.Lib.SliceRun
import Derived.Lib.ConvBytes
import Derived.Lib.SlBytesConst
import Derived.Test.YtohjofabochgfaaGreatXa
set_option linter.unusedSimpArgs false
set_option linter.unusedVariables false
set_option linter.unusedSectionVars false

namespace Go.Proofs.YtohjofabochgfaaGreat
namespace Sx
open Go
section
variable {P : Program} {R : Ctx} {w : World}
theorem Mv (hm : dj R w) {c e : Nat} {t : Ty} {xs : List t.T} (hc : R.hp c = some ⟨e, .row t xs⟩) : 0 < t.size ∧ xs.length ≤ ct := by
  have := hm.ch c _ hc
  simp only [fm] at this
  exact ⟨this.1, this.2.1⟩
def Ctx.move (R : Ctx) (c : Nat) (ch : Ch) (L : Option Loc) : Ctx := { R with hp := fun m => if m = c then some ch else R.hp m, σ := fun m => if m = c then L else R.σ m }
theorem Ctx.Kk {R : Ctx} {c : Nat} {ch ch' : Ch} {L : Option Loc} (hc : R.hp c = some ch) (he : ch.ep < ch'.ep) : R.Ext (R.move c ch' L) := by
  refine ⟨fun _ _ h => h, rfl, fun n c1 hn => ?_⟩
  by_cases e : n = c
  · subst e
    rw [hc] at hn
    cases Option.some.inj hn
    exact ⟨ch', by simp [Ctx.move], Nat.le_of_lt he, fun h => by omega⟩
  · exact ⟨c1, by simp [Ctx.move, e, hn], Nat.le_refl _, fun _ => ⟨rfl, by simp [Ctx.move, e]⟩⟩
theorem Br (hm : dj R w) {T T' Tr el : TypeId} {ti : TI} (hT : P.underlying T = some (.slice el)) (he : aX P el ti) (hT' : (∃ e, P.underlying T' = some (.slice e)) ∨ P.underlying T' = some .string)
    {t : Ty} (hts : t.size = ti.size) {c ep : Nat} {xs ys : List t.T} (hc : R.hp c = some ⟨ep, .row t xs⟩) {v x : Value} {news : List Value} (hv : R.own c ep v) (hsrc : Src P R w t ys x news)
    (hbytes : (xs.length + ys.length) * ti.bytes ≤ 140737488355328) (hb0 : 0 < ti.bytes) :
    EX P R w (Builtin.append_ #[T, T'] Tr #[v, x]) ⟨.own c (ep + 1), [(c, ⟨ep + 1, .row t (xs ++ ys)⟩)]⟩ := by
  obtain ⟨ht, hmx⟩ := Mv hm hc
  have hp := Ctx.cT hc hv
  obtain ⟨news0, hold⟩ := kI (P := P) hm hc (.inl rfl) hp
  obtain ⟨_, _, ad, cap, rfl, hcap, h5⟩ := Ctx.du hc hp
  simp only [Chunk.shape, List.drop_zero, List.take_length, Nat.zero_add, Nat.zero_mul, Nat.add_zero] at hold hcap h5 ⊢
  have h63 : xs.length + ys.length ≤ 140737488355328 := by
    have : (xs.length + ys.length) * 1 ≤ (xs.length + ys.length) * ti.bytes := Nat.mul_le_mul_left _ hb0
    omega
  have hlen : (xs ++ ys).length = xs.length + ys.length := List.length_append
  have hch := hm.ch c _ hc
  have hf := hsrc.cells w ys.length (fun _ _ => rfl) (Nat.le_refl _)
  rw [hts, ← hts, List.take_of_length_le (by rw [hsrc.size]; exact Nat.le_refl _), hts] at hf
  by_cases hroom : xs.length + ys.length ≤ cap
  · -- in place
    cases hσ : R.σ c with
    | none =>
      rw [hσ] at h5
      simp only at h5
      subst h5
      have hx0 : xs = [] := List.eq_nil_of_length_eq_zero (by omega)
      have hy0 : ys = [] := List.eq_nil_of_length_eq_zero (by omega)
      subst hx0; subst hy0
      have hn0 : news = [] := List.eq_nil_of_length_eq_zero (by rw [hsrc.size]; simp)
      subst hn0
      have hrun : (Builtin.append_ #[T, T'] Tr #[.slice ad 0 0, x]).run P w = .ok (.slice ad 0 0) w := by
        cases ad with
        | none => exact gX hT he hT' (hsrc.len w) hf hroom
        | some a => exact oj hT he hT' (hsrc.len w) hf hroom rfl
      have hx := Ctx.Kk (L := none) (ch' := ⟨ep + 1, .row t ([] ++ [])⟩) hc (by simp)
      refine ⟨_, w, R.move c ⟨ep + 1, .row t ([] ++ [])⟩ none, hrun, ⟨hx, rfl, ?_⟩, ?_⟩
      · refine dj.turn hm hx rfl rfl (fun n hn => by simp [Ctx.move, hn]) w.heap.size (fun _ _ _ => rfl) ⟨hm.T3, hm.T0, fun n ch L hn h1 h2 h3 => ?_⟩ ?_ (fun L h2 => by simp [Ctx.move] at h2)
        · have := hm.lt h1 h2 h3; omega
        · simp only [fm, Ctx.move, if_true]
          exact ⟨ht, by simp, rfl⟩
      · simp only [SV.rel]
        have hc' : (R.move c ⟨ep + 1, .row t ([] ++ [])⟩ none).hp c = some ⟨ep + 1, .row t ([] ++ [])⟩ := by simp [Ctx.move]
        refine ⟨rfl, _, hc', Nat.le_refl _, fun _ => ⟨_, hc', Nat.le_refl _, fun _ => ⟨rfl, by simp, ad, 0, rfl, Nat.le_refl _, ?_⟩⟩⟩
        simp [Ctx.move]
    | some L =>
      rw [hσ] at h5
      obtain ⟨h6, h7⟩ := h5
      simp only [fm, hσ] at hch
      obtain ⟨_, _, hF, hU, arr, E, hb, ha, hl, hrow⟩ := hch
      have hle : (xs.length + ys.length) * t.size ≤ cap * t.size := Nat.mul_le_mul_right _ hroom
      rw [Nat.add_mul] at hle
      have hst : ∀ a, ad = some a → (Go.storeCells (a.add (xs.length * ti.size)) news).run P w = .ok () (w.setRow L.block (arr.toList.take (L.base + xs.length * t.size) ++ news ++ arr.toList.drop (L.base + xs.length * t.size + news.length)).toArray) := fun a haa => by
        by_cases hz : news = []
        · subst hz
          simp only [Go.storeCells, List.append_nil, List.length_nil, Nat.add_zero, List.take_append_drop, Array.toArray_toList]
          rw [setRow_self w L.block arr E (0, 0) hb]
          rfl
        · have hpos : 0 < cap := by
            have : 0 < news.length := List.length_pos_iff.2 hz
            rw [hsrc.size] at this
            have := Nat.pos_of_mul_pos_right this
            omega
          have := h7 hpos
          rw [haa] at this
          cases this
          rw [bX, ← hts]
          have := run_storeCells_at P L.block (L.base + xs.length * t.size) E news 0 arr w hb (by rw [hsrc.size]; omega) hsrc.one
          simpa using this
      have hx := Ctx.Kk (L := some L) (ch' := ⟨ep + 1, .row t (xs ++ ys)⟩) hc (by simp)
      have hmem : ∀ w', w'.heap[L.block]? = some (.cells (arr.toList.take (L.base + xs.length * t.size) ++ news ++ arr.toList.drop (L.base + xs.length * t.size + news.length)).toArray E (0, 0)) → (∀ b, b ≠ L.block → w'.heap[b]? = w.heap[b]?) → T1 w w' →
          dj (R.move c ⟨ep + 1, .row t (xs ++ ys)⟩ (some L)) w' := fun w' hw' kk hlk => by
        refine dj.turn hm hx rfl rfl (fun n hn => by simp [Ctx.move, hn]) L.block (fun b _ hne => kk b hne) ⟨hF, hU, fun n ch2 L2 hn hn2 hm2 hs2 heq => hn (hm.apart n c ch2 _ L2 L hn2 hc hm2 rfl hs2 hσ heq)⟩ ?_ (fun L2 h2 => by simp only [Ctx.move, if_true] at h2; cases h2; rfl) hlk
        simp only [fm, Ctx.move, if_true]
        refine ⟨ht, by rw [hlen]; unfold ct; omega, hF, hU, _, E, hw', ?_, ?_, ?_⟩
        · simp only [List.size_toArray, List.length_append, List.length_take, List.length_drop, Array.length_toList, hsrc.size]
          omega
        · rw [hlen, Nat.add_mul]; omega
        · have hA : (seg arr.toList L.base (xs.length * t.size)).length = xs.length * t.size := fa (by simp; omega)
          have := xo (R := R) (xs := xs) (ys := ys) (A := seg arr.toList L.base (xs.length * t.size)) (B := news) (C := arr.toList.drop (L.base + xs.length * t.size + news.length)) hA hsrc.size (fun i hi => by
            have hle : (i + 1) * t.size ≤ xs.length * t.size := Nat.mul_le_mul_right _ hi
            rw [Nat.succ_mul] at hle
            rw [xm _ _ _ _ _ hle]
            exact hrow i hi) hsrc.rep
          intro i hi
          have h8 := this i hi
          have e : seg (arr.toList.take (L.base + xs.length * t.size) ++ news ++ arr.toList.drop (L.base + xs.length * t.size + news.length)) (L.base + i * t.size) t.size =
              seg (seg arr.toList L.base (xs.length * t.size) ++ news ++ arr.toList.drop (L.base + xs.length * t.size + news.length)) (i * t.size) t.size := by
            simp only [seg]
            rw [← List.drop_drop]
            congr 2
            rw [List.append_assoc, List.drop_append, List.drop_take, List.length_take, List.append_assoc]
            rw [show L.base - min (L.base + xs.length * t.size) arr.toList.length = 0 by simp; omega, List.drop_zero]
            congr 2
            omega
          simp only
          rw [e]
          exact h8
      cases had : ad with
      | none =>
        have hcap0 : cap = 0 := by
          by_cases hc0 : 0 < cap
          · have := h7 hc0; rw [had] at this; cases this
          · omega
        have hx0 : xs = [] := List.eq_nil_of_length_eq_zero (by omega)
        have hy0 : ys = [] := List.eq_nil_of_length_eq_zero (by omega)
        subst hx0; subst hy0; subst hcap0
        have hn0 : news = [] := List.eq_nil_of_length_eq_zero (by rw [hsrc.size]; simp)
        subst hn0
        have hrun := gX (Tr := Tr) hT he hT' (hsrc.len w) hf hroom
        refine ⟨_, w, R.move c ⟨ep + 1, .row t ([] ++ [])⟩ (some L), hrun, ⟨hx, rfl, hmem w (by simpa using hb) (fun _ _ => rfl) ⟨rfl, rfl, rfl⟩⟩, ?_⟩
        simp only [SV.rel]
        have hc' : (R.move c ⟨ep + 1, .row t ([] ++ [])⟩ (some L)).hp c = some ⟨ep + 1, .row t ([] ++ [])⟩ := by simp [Ctx.move]
        refine ⟨rfl, _, hc', Nat.le_refl _, fun _ => ⟨_, hc', Nat.le_refl _, fun _ => ⟨rfl, by simp, none, 0, rfl, Nat.le_refl _, ?_⟩⟩⟩
        simp [Ctx.move]
      | some a =>
        have hrun := oj (Tr := Tr) hT he hT' (hsrc.len w) hf hroom (hst a had)
        refine ⟨_, _, R.move c ⟨ep + 1, .row t (xs ++ ys)⟩ (some L), hrun, ⟨hx, rfl, hmem _ (setRow_heap w L.block arr _ E _ hb) (fun b hne => setRow_other w L.block b _ hne) ⟨rfl, rfl, rfl⟩⟩, ?_⟩
        simp only [SV.rel]
        have hc' : (R.move c ⟨ep + 1, .row t (xs ++ ys)⟩ (some L)).hp c = some ⟨ep + 1, .row t (xs ++ ys)⟩ := by simp [Ctx.move]
        refine ⟨rfl, _, hc', Nat.le_refl _, fun _ => ⟨_, hc', Nat.le_refl _, fun _ => ⟨rfl, by simp, some a, cap, by simp [Chunk.shape], by simp only [Chunk.shape, hlen]; exact hroom, ?_⟩⟩⟩
        simp only [Ctx.move, if_true, Chunk.shape, Nat.zero_add, Nat.zero_mul, Nat.add_zero]
        exact ⟨h6, fun hpos => by rw [← had]; exact h7 hpos⟩
  · -- a new row
    obtain ⟨ie, z, z1, z2, z3, z4, z5, z6, z7⟩ := he.qh (R := R)
    have hf := hsrc.cells w.drew ys.length (vH w) (Nat.le_refl _)
    have ho := hold.cells w.drew xs.length (vH w) (Nat.le_refl _)
    rw [List.take_of_length_le (by rw [hsrc.size]; exact Nat.le_refl _), hts] at hf
    rw [List.take_of_length_le (by rw [hold.size]; exact Nat.le_refl _), hts] at ho
    have hrun := zU (Tr := Tr) hT he hT' (hsrc.len w) z1 z4 hroom h63 (growslice_fits (by omega) (by rw [z3]; exact hbytes)) ho hf
    have hge := grownCap_ge w (xs.length + ys.length) cap el
    have hsz : (news0.toArray ++ news.toArray ++ Builtin.zeroCells z.cells (grownCap w (xs.length + ys.length) cap el - (xs.length + ys.length))).size = grownCap w (xs.length + ys.length) cap el * t.size := by
      simp only [Array.size_append, List.size_toArray, size_zeroCells, z6, hold.size, hsrc.size, ← hts, ← Nat.add_mul]
      congr 1
      omega
    have hx := Ctx.Kk (L := some ⟨w.heap.size, 0, grownCap w (xs.length + ys.length) cap el * t.size⟩) (ch' := ⟨ep + 1, .row t (xs ++ ys)⟩) hc (by simp)
    refine ⟨_, _, R.move c ⟨ep + 1, .row t (xs ++ ys)⟩ (some ⟨w.heap.size, 0, grownCap w (xs.length + ys.length) cap el * t.size⟩), hrun, ⟨hx, rfl, ?_⟩, ?_⟩
    · refine dj.turn hm hx rfl rfl (fun n hn => by simp [Ctx.move, hn]) w.heap.size (fun b hb _ => heap_alloc_old w.drew _ b hb) ⟨hm.T3, hm.T0, fun n ch L hn h1 h2 h3 => ?_⟩ ?_ (fun L2 h2 => by simp only [Ctx.move, if_true] at h2; cases h2; rfl)
      · have := hm.lt h1 h2 h3; omega
      · simp only [fm, Ctx.move, if_true]
        refine ⟨ht, by rw [hlen]; unfold ct; omega, hm.T3, hm.T0, _, el, heap_alloc_new w.drew _, by rw [hsz]; simp, ?_, ?_⟩
        · rw [hlen]; exact Nat.mul_le_mul_right _ hge
        · have := xo (R := R) (C := (Builtin.zeroCells z.cells (grownCap w (xs.length + ys.length) cap el - (xs.length + ys.length))).toList) hold.size hsrc.size hold.rep hsrc.rep
          simpa using this
    · simp only [SV.rel]
      have hc' : (R.move c ⟨ep + 1, .row t (xs ++ ys)⟩ (some ⟨w.heap.size, 0, grownCap w (xs.length + ys.length) cap el * t.size⟩)).hp c = some ⟨ep + 1, .row t (xs ++ ys)⟩ := by simp [Ctx.move]
      refine ⟨rfl, _, hc', Nat.le_refl _, fun _ => ⟨_, hc', Nat.le_refl _, fun _ => ⟨rfl, by simp, some ⟨w.heap.size, 0, none⟩, grownCap w (xs.length + ys.length) cap el, by simp only [Chunk.shape, hlen], by simp only [Chunk.shape, hlen]; exact hge, ?_⟩⟩⟩
      simp only [Ctx.move, if_true, Chunk.shape, Nat.zero_add, Nat.zero_mul, Nat.add_zero]
      exact ⟨Nat.le_refl _, fun _ => by simp⟩
theorem Bs (hm : dj R w) {T T' Tr el : TypeId} {ti : TI} (hT : P.underlying T = some (.slice el)) (he : aX P el ti) (hT' : (∃ e, P.underlying T' = some (.slice e)) ∨ P.underlying T' = some .string)
    {t : Ty} (ht : 0 < t.size) (hts : t.size = ti.size) {n : Nat} (hn : R.hp n = none) {ys : List t.T} {ad : Option Addr} {x : Value} {news : List Value} (hsrc : Src P R w t ys x news)
    (hbytes : ys.length * ti.bytes ≤ 140737488355328) (hb0 : 0 < ti.bytes) :
    EX P R w (Builtin.append_ #[T, T'] Tr #[.slice ad 0 0, x]) ⟨.own n 0, [(n, ⟨0, .row t ys⟩)]⟩ := by
  by_cases h0 : ys = []
  · subst h0
    have hn0 : news = [] := List.eq_nil_of_length_eq_zero (by rw [hsrc.size]; simp)
    subst hn0
    have hf := hsrc.cells w 0 (fun _ _ => rfl) (Nat.zero_le _)
    rw [hts] at hf
    simp only [Nat.zero_mul, List.take_nil] at hf
    have hrun : (Builtin.append_ #[T, T'] Tr #[.slice ad 0 0, x]).run P w = .ok (.slice ad 0 0) w := by
      cases ad with
      | none => exact gX hT he hT' (hsrc.len w) hf (by simp)
      | some a => exact oj hT he hT' (hsrc.len w) hf (by simp) rfl
    exact ⟨_, w, _, hrun, dj.auA hm hn (fun _ _ => rfl) (by simp only [fm, Ctx.lay, if_true]; exact ⟨ht, by simp, trivial⟩), Cl⟩
  · have hpos : 0 < ys.length := List.length_pos_iff.2 h0
    have := OE (Tr := Tr) (te := fun _ => none) hm hT he hT' ht hts (xs := []) (base := ad) (sCap := 0) hsrc (olds := []) QK (by simp; omega) (by simpa using hbytes) hb0 hn
    simpa using this
theorem Gz (hm : dj R w) {te : TE} (hte : lv P te) {T T' Tr : TypeId} {d : Nat} {s x : SV} {v u : Value} {e : Eff} (hT2 : uz te T' = true) (h : (rE te R.hp d T s x).run = some e)
    (hs : SV.rel R s v) (hx : SV.rel R x u) : EX P R w (Builtin.append_ #[T, T'] Tr #[v, u]) e := by
  have hT' := Jg hte hT2
  unfold rE at h
  split at h
  · rename_i el _ _ hT
    obtain ⟨ds, h1, h2⟩ := (hte T _ hT).desc
    simp only at h2
    subst h2
    split at h
    · rename_i size bytes desc zero t hei
      have he := hte el _ hei
      split at h
      · cases h
      · rename_i hc
        simp only [not_or] at hc
        obtain ⟨hts, hs0, hb0⟩ := hc
        have hts : t.size = size := by simpa using hts
        have ht : 0 < t.size := by omega
        split at h
        · rename_i ys hys
          have hsrc : ∃ news, Src P R w t ys u news := by
            split at hys
            · exact ad5 hys hx
            · exact IF hm ht hys hx
          obtain ⟨news, hsrc⟩ := hsrc
          split at h
          · rename_i c ep
            split at h
            · rename_i t' xs hc
              split at h
              · rename_i xs' hxs
                obtain ⟨hg, h'⟩ := OT.aE h
                cases h'
                obtain ⟨et, rfl⟩ := be hxs
                subst et
                simp only [SV.rel] at hs
                exact Br hm h1 he hT' hts (cC hc) hs.2 hsrc (of_decide_eq_true hg) (Nat.pos_of_ne_zero hb0)
              · cases h
            · cases h
          · rename_i c ep
            split at h
            · rename_i t' xs hc
              split at h
              · rename_i xs' hxs
                dsimp only at h
                split at h
                · cases h
                · rename_i hfr
                  obtain ⟨hg, h'⟩ := OT.aE h
                  cases h'
                  obtain ⟨et, rfl⟩ := be hxs
                  subst et
                  simp only [Bool.and_eq_true, decide_eq_true_eq] at hg
                  simp only [SV.rel] at hs
                  have hc' := cC hc
                  have hp := Ctx.cT hc' hs.2.1
                  obtain ⟨olds, hold⟩ := kI (P := P) hm hc' (.inl rfl) hp
                  obtain ⟨ad, len, hv⟩ := hs.2.2 _ hc' rfl
                  obtain ⟨_, _, ad', cap, hv', hcap, _⟩ := Ctx.du hc' hp
                  rw [hv] at hv'
                  cases hv'
                  subst hv
                  simp only [Chunk.shape, List.drop_zero, List.take_length] at hold ⊢
                  exact OE (te := te) hm h1 he hT' ht hts hsrc hold (by omega) hg.1 (Nat.pos_of_ne_zero hb0) (mg hfr)
              · cases h
            · cases h
          · dsimp only at h
            split at h
            · cases h
            · rename_i hfr
              obtain ⟨hg, h'⟩ := OT.aE h
              cases h'
              simp only [SV.rel] at hs
              obtain ⟨ad, rfl⟩ := hs
              exact Bs hm h1 he hT' ht hts (mg hfr) hsrc (of_decide_eq_true hg) (Nat.pos_of_ne_zero hb0)
          · cases h
        · cases h
    · cases h
  · cases h
theorem aed {t : Ty} {xs ys : List t.T} {arr : Array Value} {base off n : Nat} {news : List Value} (hrow : Lw R arr base t xs) (hsz : base + xs.length * t.size ≤ arr.size) (hn : off + n ≤ xs.length) (hny : n ≤ ys.length)
    (hl : news.length = n * t.size) (hnews : ∀ i, i < n → Rep R.F t (ys.getD i t.d) (seg news (i * t.size) t.size)) :
    Lw R (arr.toList.take (base + off * t.size) ++ news ++ arr.toList.drop (base + off * t.size + news.length)).toArray base t (xs.take off ++ (ys.take n ++ xs.drop (off + n))) := by
  intro i hi
  simp only [List.length_append, List.length_take, List.length_drop] at hi
  have hi' : i < xs.length := by omega
  have hoff : (off + n) * t.size ≤ xs.length * t.size := Nat.mul_le_mul_right _ hn
  rw [Nat.add_mul] at hoff
  have hi1 : (i + 1) * t.size ≤ xs.length * t.size := Nat.mul_le_mul_right _ hi'
  rw [Nat.succ_mul] at hi1
  simp only
  by_cases c1 : i < off
  · have e1 : (xs.take off ++ (ys.take n ++ xs.drop (off + n))).getD i t.d = xs.getD i t.d := by
      simp only [List.getD_eq_getElem?_getD]
      rw [List.getElem?_append_left (by simp; omega), List.getElem?_take_of_lt c1]
    have : (i + 1) * t.size ≤ off * t.size := Nat.mul_le_mul_right _ c1
    rw [Nat.succ_mul] at this
    rw [e1, gh _ _ _ _ _ (by simp; omega) (by left; omega)]
    exact hrow i hi'
  · by_cases c2 : i < off + n
    · have e1 : (xs.take off ++ (ys.take n ++ xs.drop (off + n))).getD i t.d = ys.getD (i - off) t.d := by
        simp only [List.getD_eq_getElem?_getD]
        rw [List.getElem?_append_right (by simp; omega), List.getElem?_append_left (by simp; omega), List.getElem?_take_of_lt (by simp; omega)]
        congr 2
        simp; omega
      have hk1 : (i - off + 1) * t.size ≤ n * t.size := Nat.mul_le_mul_right _ (by omega)
      have hk2 : (i - off) * t.size + off * t.size = i * t.size := by rw [← Nat.add_mul]; congr 1; omega
      rw [Nat.succ_mul] at hk1
      have e2 : seg (arr.toList.take (base + off * t.size) ++ news ++ arr.toList.drop (base + off * t.size + news.length)) (base + i * t.size) t.size = seg news ((i - off) * t.size) t.size := by
        apply List.ext_getElem?
        intro j
        simp only [seg, List.getElem?_take, List.getElem?_drop]
        by_cases hj : j < t.size
        · simp only [hj, if_true]
          rw [List.getElem?_append_left (by simp; omega), List.getElem?_append_right (by simp; omega)]
          congr 1
          simp; omega
        · simp [hj]
      rw [e1, e2]
      exact hnews _ (by omega)
    · have e1 : (xs.take off ++ (ys.take n ++ xs.drop (off + n))).getD i t.d = xs.getD i t.d := by
        simp only [List.getD_eq_getElem?_getD]
        rw [List.getElem?_append_right (by simp; omega), List.getElem?_append_right (by simp; omega), List.getElem?_drop]
        congr 2
        simp; omega
      have : (off + n) * t.size ≤ i * t.size := Nat.mul_le_mul_right _ (by omega)
      rw [Nat.add_mul] at this
      rw [e1, gh _ _ _ _ _ (by simp; omega) (by right; omega)]
      exact hrow i hi'
end
end Sx
end Go.Proofs.YtohjofabochgfaaGreat

namespace Go.Proofs.YtohjofabochgfaaGreat
namespace Sx
open Go
section
variable {P : Program} {R : Ctx} {w : World}
theorem WA {α : Type} (ys : List α) (k : Nat) : ys.take (min ys.length k) = ys.take k := by
  by_cases h : k ≤ ys.length
  · rw [Nat.min_eq_right h]
  · rw [Nat.min_eq_left (by omega), List.take_of_length_le (Nat.le_refl _), List.take_of_length_le (by omega)]
theorem ams {α : Type} (xs : List α) (k : Nat) : xs.drop (min k xs.length) = xs.drop k := by
  by_cases h : k ≤ xs.length
  · rw [Nat.min_eq_left h]
  · rw [Nat.min_eq_right (by omega), List.drop_of_length_le (Nat.le_refl _), List.drop_of_length_le (by omega)]
theorem pF (hm : dj R w) {T T' Tr el : TypeId} {ti : TI} (hT : P.underlying T = some (.slice el)) (he : aX P el ti) {t : Ty} (hts : t.size = ti.size) {c ep off len : Nat} {xs ys : List t.T}
    (hc : R.hp c = some ⟨ep, .row t xs⟩) {v x : Value} {news : List Value} (hp : R.part c ep off len v) (hsrc : Src P R w t ys x news) :
    EX P R w (Builtin.copy_ #[T, T'] Tr #[v, x]) ⟨.int (min ys.length len : Nat), [(c, ⟨ep, .row t (xs.take off ++ (ys.take (min ys.length len) ++ xs.drop (off + min ys.length len)))⟩)]⟩ := by
  obtain ⟨ht, hmx⟩ := Mv hm hc
  obtain ⟨_, h2, ad, cap, rfl, hcap, h5⟩ := Ctx.du hc hp
  simp only [Chunk.shape] at h2 h5
  have hn : min ys.length len ≤ ys.length := Nat.min_le_left _ _
  have hn2 : min ys.length len ≤ len := Nat.min_le_right _ _
  have hr : inR ((min ys.length len : Nat) : Int) = true := SO (Nat.le_trans hn hsrc.max)
  have hf := hsrc.cells w (min ys.length len) (fun _ _ => rfl) hn
  rw [hts] at hf
  have hlen : (xs.take off ++ (ys.take (min ys.length len) ++ xs.drop (off + min ys.length len))).length = xs.length := by
    simp only [List.length_append, List.length_take, List.length_drop]; omega
  have hsh : (Chunk.row t (xs.take off ++ (ys.take (min ys.length len) ++ xs.drop (off + min ys.length len)))).shape = (Chunk.row t xs).shape := by
    simp only [Chunk.shape, hlen]
  have hnl : (news.take (min ys.length len * ti.size)).length = min ys.length len * t.size := by
    have : min ys.length len * t.size ≤ ys.length * t.size := Nat.mul_le_mul_right _ hn
    rw [List.length_take, hsrc.size, ← hts]; omega
  have hrep : ∀ i, i < min ys.length len → Rep R.F t (ys.getD i t.d) (seg (news.take (min ys.length len * ti.size)) (i * t.size) t.size) := fun i hi => by
    have h1 : (i + 1) * t.size ≤ min ys.length len * t.size := Nat.mul_le_mul_right _ hi
    rw [Nat.succ_mul] at h1
    have h2 : seg (news.take (min ys.length len * ti.size)) (i * t.size) t.size = seg news (i * t.size) t.size := by
      have := xm news 0 (i * t.size) (min ys.length len * ti.size) t.size (by rw [← hts]; exact h1)
      simpa [seg] using this
    rw [h2]
    exact hsrc.rep i (by omega)
  have hch := hm.ch c _ hc
  have hone : ∀ u ∈ news.take (min ys.length len * ti.size), u.oneCell' = true := fun u hu => hsrc.one u (List.mem_of_mem_take hu)
  -- nothing is written
  have nothing : min ys.length len = 0 → (∀ a, ad = some a → True) → EX P R w (Builtin.copy_ #[T, T'] Tr #[.slice ad len cap, x]) ⟨.int (min ys.length len : Nat), [(c, ⟨ep, .row t (xs.take off ++ (ys.take (min ys.length len) ++ xs.drop (off + min ys.length len)))⟩)]⟩ := fun h0 _ => by
    have hrun : (Builtin.copy_ #[T, T'] Tr #[.slice ad len cap, x]).run P w = .ok (.int .i64 (min ys.length len : Nat)) w := by
      rw [h0] at hf ⊢
      simp only [Nat.zero_mul, List.take_zero] at hf
      cases ad with
      | none => simp [Builtin.copy_, run_underlying hT, he.b9 w, hsrc.len w, h0, hf, goInt]
      | some a => simp [Builtin.copy_, run_underlying hT, he.b9 w, hsrc.len w, h0, hf, goInt, Go.storeCells]
    have hsame : xs.take off ++ (ys.take (min ys.length len) ++ xs.drop (off + min ys.length len)) = xs := by
      rw [h0]; simp
    have hupd : R.upd c ⟨ep, .row t xs⟩ = R := by
      unfold Ctx.upd
      cases R
      simp only [Ctx.mk.injEq, true_and]
      funext n
      split
      · rename_i hnc; subst hnc; exact hc.symm
      · rfl
    refine ⟨_, w, R, hrun, ⟨Ctx.Ext.refl R, ?_, hm⟩, by simp only [SV.rel, true_and]; exact hr⟩
    rw [hsame]
    have := congrArg Ctx.hp hupd
    exact this.symm
  by_cases h0 : min ys.length len = 0
  · exact nothing h0 (fun _ _ => trivial)
  · cases hσ : R.σ c with
    | none =>
      rw [hσ] at h5
      simp only at h5
      omega
    | some L =>
      rw [hσ] at h5
      obtain ⟨h6, h7⟩ := h5
      have had := h7 (by omega)
      subst had
      simp only [fm, hσ] at hch
      obtain ⟨_, _, hF, hU, arr, E, hb, ha, hl, hrow⟩ := hch
      have hoff : (off + min ys.length len) * t.size ≤ xs.length * t.size := Nat.mul_le_mul_right _ (by omega)
      rw [Nat.add_mul] at hoff
      obtain ⟨w', R', hst, haf⟩ := mO (P := P) (e := ep) (p := L.base + off * t.size) (vs := news.take (min ys.length len * ti.size)) hm
        (ch' := ⟨ep, .row t (xs.take off ++ (ys.take (min ys.length len) ++ xs.drop (off + min ys.length len)))⟩) hc rfl hσ hF hU hb rfl rfl hsh (by rw [hnl]; omega) hone
        (fun w' hw' => by
          simp only [fm, Ctx.upd, hσ]
          refine ⟨ht, by rw [hlen]; exact hmx, hF, hU, _, E, hw', ?_, by rw [hlen]; exact hl, ?_⟩
          · simp only [List.size_toArray, List.length_append, List.length_take, List.length_drop, Array.length_toList] at hnl ⊢
            omega
          · exact aed hrow (by omega) (by omega) hn hnl hrep)
      refine ⟨.int .i64 ((min ys.length len : Nat) : Int), w', R', ?_, haf, by simp only [SV.rel, true_and]; exact hr⟩
      have hn' : Nat.min ys.length len = min ys.length len := rfl
      simp [Builtin.copy_, run_underlying hT, he.b9 w, hsrc.len w, hn', hf, hst, goInt]
theorem Ph (hm : dj R w) {te : TE} (hte : lv P te) {T T' Tr : TypeId} {x y : SV} {v u : Value} {e : Eff} (h : (Im te R.hp T x y).run = some e)
    (hs : SV.rel R x v) (hx : SV.rel R y u) : EX P R w (Builtin.copy_ #[T, T'] Tr #[v, u]) e := by
  unfold Im at h
  split at h
  · rename_i el _ _ hT
    obtain ⟨ds, h1, h2⟩ := (hte T _ hT).desc
    simp only at h2
    subst h2
    split at h
    · rename_i size bytes desc zero t hei
      have he := hte el _ hei
      split at h
      · cases h
      · rename_i hc
        simp only [not_or] at hc
        obtain ⟨hts, hs0⟩ := hc
        have hts : t.size = size := by simpa using hts
        have ht : 0 < t.size := by omega
        split at h
        · rename_i ys hys
          have hsrc : ∃ news, Src P R w t ys u news := by
            split at hys
            · exact ad5 hys hx
            · exact IF hm ht hys hx
          obtain ⟨news, hsrc⟩ := hsrc
          split at h
          · rename_i c ep
            split at h
            · rename_i t' xs hc
              split at h
              · rename_i xs' hxs
                cases h
                obtain ⟨et, rfl⟩ := be hxs
                subst et
                simp only [SV.rel] at hs
                have hc' := cC hc
                have := pF (Tr := Tr) (T' := T') hm h1 he hts hc' (Ctx.cT hc' hs.2) hsrc
                simp only [Chunk.shape, List.take_zero, List.nil_append, Nat.zero_add, WA, ams] at this
                exact this
              · cases h
            · cases h
          · rename_i c ep off len
            split at h
            · rename_i t' xs hc
              split at h
              · rename_i xs' hxs
                cases h
                obtain ⟨et, rfl⟩ := be hxs
                subst et
                simp only [SV.rel] at hs
                have := pF (Tr := Tr) (T' := T') hm h1 he hts (cC hc) hs.2 hsrc
                simp only [WA] at this
                exact this
              · cases h
            · cases h
          · cases h
        · cases h
    · cases h
  · cases h
end
end Sx
end Go.Proofs.YtohjofabochgfaaGreat

namespace Go.Proofs.YtohjofabochgfaaGreat
namespace Sx
open Go
section
variable {P : Program} {R : Ctx} {w : World}
theorem oi {arr e : TypeId} {n : Nat} (a : Option Addr) (len cap : Nat) (h : P.underlying arr = some (.array n e)) (hn : n ≤ len) : (Instr.arrayAt arr (.slice a len cap)).run P w = .ok (.pointer a) w := by
  have h1 : ¬ len < n := by omega
  simp only [Instr.arrayAt, Sem.run_bind, run_underlying h, Result.andThen_ok, if_neg h1, Sem.run_pure]
theorem Gx {te : TE} (hte : lv P te) {T : TypeId} {x z : SV} {v : Value} (h : (rD te R.hp T x).run = some z) (hx : SV.rel R x v) : je P R w (Instr.arrayAt T v) z := by
  unfold rD at h
  split at h
  · rename_i sz by' n e ze ty hT
    obtain ⟨d, h1, h2⟩ := (hte T _ hT).desc
    simp only at h2
    subst h2
    split at h
    · cases h
    · rename_i ei hei
      split at h
      · cases h
      · rename_i hn0
        split at h
        · rename_i c ep
          split at h
          · rename_i hrs
            split at h
            · rename_i m hm'
              obtain ⟨hg, h'⟩ := OT.aE h
              cases h'
              have hnm := of_decide_eq_true hg
              simp only [SV.rel] at hx
              obtain ⟨bb, hcc, hb1, hb2⟩ := dq hrs
              obtain ⟨bb', hcc', _, hb4⟩ := cW hm'
              rw [hcc] at hcc'
              cases Option.some.inj hcc'
              have hp := Ctx.cT hcc hx.2
              rw [hb4] at hp
              obtain ⟨_, _, ad, cap, rfl, h4, h5⟩ := Ctx.du hcc hp
              refine ⟨_, oi ad m cap h1 hnm, ?_⟩
              cases hσ : R.σ c with
              | none => rw [hσ] at h5; simp only at h5; omega
              | some L =>
                rw [hσ] at h5
                have := h5.2 (by omega)
                subst this
                simp only [SV.rel]
                refine ⟨⟨_, rfl⟩, _, hcc, Nat.le_refl _, fun _ => ⟨L, hσ, ?_⟩⟩
                simp
            · cases h
          · cases h
        · rename_i c ep off len
          split at h
          · rename_i hrs
            obtain ⟨hg, h'⟩ := OT.aE h
            cases h'
            have hnm := of_decide_eq_true hg
            simp only [SV.rel] at hx
            obtain ⟨bb, hcc, hb1, hb2⟩ := dq hrs
            obtain ⟨_, _, ad, cap, rfl, h4, h5⟩ := Ctx.du hcc hx.2
            refine ⟨_, oi ad len cap h1 hnm, ?_⟩
            cases hσ : R.σ c with
            | none => rw [hσ] at h5; simp only at h5; omega
            | some L =>
              rw [hσ] at h5
              have := h5.2 (by omega)
              subst this
              simp only [SV.rel]
              exact ⟨⟨_, rfl⟩, _, hcc, Nat.le_refl _, fun _ => ⟨L, hσ, by simp⟩⟩
          · cases h
        · rename_i t xs
          split at h
          · rename_i hts
            obtain ⟨hg, h'⟩ := OT.aE h
            cases h'
            have hnm := of_decide_eq_true hg
            simp only [SV.rel] at hx
            obtain ⟨_, ad, cap, hv, hc, hr⟩ := hx
            cases hv
            refine ⟨_, oi ad xs.length cap h1 hnm, ?_⟩
            rcases hr with hr | ⟨b, o, arr, E, fz, rfl, hF, hs, hr⟩
            · rw [hr] at hnm; simp at hnm; omega
            · simp only [SV.rel]
              exact ⟨fun e => by rw [e] at hnm; simp at hnm; omega, by omega, b, o, arr, E, fz, rfl, hF, hs, hr⟩
          · cases h
        · cases h
  · cases h
def Ctx.more (R : Ctx) (w w' : World) : Ctx := { R with F := fun b => if b < w.heap.size then R.F b else w'.heap[b]? }
theorem aqk (hm : dj R w) {w₁ : World} (kk : ∀ b, b < w.heap.size → w₁.heap[b]? = w.heap[b]?) (hs : T1 w w₁ := by exact ⟨rfl, rfl, rfl⟩) : eH R (R.more w w₁) w₁ [] := by
  have hFlt : ∀ b o, R.F b = some o → b < w.heap.size := fun b o h => (Array.getElem?_eq_some_iff.1 (hm.F b o h)).1
  have hx2 : R.Ext (R.more w w₁) := ⟨fun b o h => by simp [Ctx.more, hFlt b o h, h], rfl, fun c ch hc => ⟨ch, hc, Nat.le_refl _, fun _ => ⟨rfl, rfl⟩⟩⟩
  refine ⟨hx2, rfl, fun b o h => ?_, fun b o h => ?_, fun c ch hc => ?_, hm.apart, fun b o h => ?_, hm.env.trans hs⟩
  rotate_right
  · simp only [Ctx.more] at h ⊢
    split at h
    · exact hm.FU b o h
    · cases hU : R.U b with
      | none => rfl
      | some o' => exact absurd (Array.getElem?_eq_some_iff.1 (hm.U b o' hU)).1 (by assumption)
  · simp only [Ctx.more] at h
    split at h
    · rename_i hb
      rw [kk b hb]; exact hm.F b o h
    · exact h
  · have := hm.U b o h
    rw [kk b (Array.getElem?_eq_some_iff.1 this).1, this]
  · have hch := hm.ch c ch hc
    obtain ⟨ep, body⟩ := ch
    cases body with
    | row t xs =>
      simp only [fm] at hch ⊢
      refine ⟨hch.1, hch.2.1, ?_⟩
      replace hch := hch.2.2
      show match R.σ c with | none => _ | some L => _
      cases hL : R.σ c with
      | none => rw [hL] at hch; exact hch
      | some L =>
        rw [hL] at hch
        obtain ⟨c1, c2, arr, E, c3, c4, c5, c6⟩ := hch
        have hb := (Array.getElem?_eq_some_iff.1 c3).1
        refine ⟨by simp only [Ctx.more, hb, if_true]; exact c1, c2, arr, E, (kk _ hb).trans c3, c4, c5, fun i hi => bZ hx2.F _ _ _ (c6 i hi)⟩
    | frz t xs =>
      simp only [fm] at hch ⊢
      refine ⟨hch.1, hch.2.1, ?_⟩
      replace hch := hch.2.2
      show match R.σ c with | none => _ | some L => _
      cases hL : R.σ c with
      | none => rw [hL] at hch; exact hch
      | some L =>
        rw [hL] at hch
        obtain ⟨arr, E, fz, c3, c4, c5, c6⟩ := hch
        exact ⟨arr, E, fz, hx2.F _ _ c3, c4, c5, fun i hi => bZ hx2.F _ _ _ (c6 i hi)⟩
    | cells vs =>
      simp only [fm] at hch ⊢
      obtain ⟨L, hL, c1, c2, arr, E, c3, c4, c5, c6, c7⟩ := hch
      have hb := (Array.getElem?_eq_some_iff.1 c3).1
      exact ⟨L, hL, by simp only [Ctx.more, hb, if_true]; exact c1, c2, arr, E, (kk _ hb).trans c3, c4, c5, SV.fc hx2 _ _ c6, c7⟩
theorem Lg (hm : dj R w) {te : TE} (hte : lv P te) {src dst : TypeId} {x : SV} {v : Value} {s : List UInt8} (h : bytesOf te src dst x = some s) (hx : SV.rel R x v) :
    ∃ u w' R', (convert src dst v).run P w = .ok u w' ∧ eH R R' w' [] ∧ SV.rel R' (.lst .u8 s) u := by
  unfold bytesOf at h
  split at h
  · rename_i sz by' e ze ty hT
    obtain ⟨d, h1, h2⟩ := (hte dst _ hT).desc
    simp only at h2
    subst h2
    split at h
    · rename_i sz2 by2 ze2 ty2 hE
      obtain ⟨d2, g1, g2⟩ := (hte e _ hE).desc
      simp only at g2
      subst g2
      split at h
      · rename_i s'
        split at h
        · rename_i hs
          cases h
          obtain ⟨ti, hti⟩ := Option.isSome_iff_exists.1 hs
          obtain ⟨d3, k1, _⟩ := (hte src ti hti).desc
          simp only [SV.rel] at hx
          obtain ⟨rfl, hl⟩ := hx
          have hrun := Lib.run_convert_string_bytes (P := P) w src dst e ⟨s.toArray⟩ k1 h1 g1
          have kk : ∀ b, b < w.heap.size → (Lib.bytesWorld w e ⟨s.toArray⟩).heap[b]? = w.heap[b]? := fun b hb => Lib.bytesWorld_at_old w e _ b hb
          refine ⟨_, _, R.more w (Lib.bytesWorld w e ⟨s.toArray⟩), hrun, aqk hm kk, ?_⟩
          have hsz : (⟨s.toArray⟩ : ByteArray).size = s.length := by simp [ByteArray.size]
          simp only [SV.rel]
          refine ⟨hl, some ⟨w.heap.size, 0, none⟩, _, by rw [hsz], ?_, ?_⟩
          · have := grownCap_ge w (⟨s.toArray⟩ : ByteArray).size 0 e
            rw [hsz] at this
            exact this
          · by_cases he : s = []
            · exact .inl he
            · right
              refine ⟨w.heap.size, 0, Lib.bytesCells w e ⟨s.toArray⟩, e, ((Lib.bytesCells w e ⟨s.toArray⟩).size, (Lib.bytesCells w e ⟨s.toArray⟩).size + 1), rfl, ?_, ?_, fun i hi => ?_⟩
              · simp only [Ctx.more, Nat.lt_irrefl, if_false]
                exact Lib.bytesWorld_at_new w e _
              · simp [Lib.bytesCells, Ty.size]
              · have hc : (Lib.bytesCells w e ⟨s.toArray⟩).toList = (s.map vu8) ++ List.replicate (grownCap w (⟨s.toArray⟩ : ByteArray).size 0 e - (⟨s.toArray⟩ : ByteArray).size) (.int .u8 0) := by
                  simp [Lib.bytesCells, vu8]
                rw [hc]
                simp only [Ty.size, Nat.mul_one, Nat.zero_add]
                have hseg : seg ((s.map vu8) ++ List.replicate (grownCap w (⟨s.toArray⟩ : ByteArray).size 0 e - (⟨s.toArray⟩ : ByteArray).size) (.int .u8 0)) i 1 = [vu8 (s.getD i 0)] := by
                  simp only [seg]
                  rw [List.drop_append_of_le_length (by simp; omega), List.drop_eq_getElem_cons (by simpa using hi)]
                  simp [List.getD_eq_getElem?_getD, hi]
                rw [hseg]
                rfl
        · cases h
      · cases h
    · cases h
  · cases h
def Ctx.lq (R : Ctx) (c : Nat) (ch : Ch) (b : Nat) (o : Obj) : Ctx :=
  ⟨fun b' => if b' = b then some o else R.F b', R.U, fun c' => if c' = c then none else R.σ c', fun c' => if c' = c then some ch else R.hp c'⟩
theorem XY (hm : dj R w) {c e : Nat} {t : Ty} {xs : List t.T} {L : Loc} {w₁ : World} {o : Obj} (hc : R.hp c = some ⟨e, .row t xs⟩) (hσ : R.σ c = some L)
    (kk : ∀ b, b ≠ L.block → w₁.heap[b]? = w.heap[b]?) (hb : w₁.heap[L.block]? = some o) (hs : T1 w w₁) : eH R (R.lq c ⟨e + 1, .row .u8 []⟩ L.block o) w₁ [(c, ⟨e + 1, .row .u8 []⟩)] := by
  have h0 := hm.ch c _ hc
  simp only [fm, hσ] at h0
  obtain ⟨_, _, hF, hU, _⟩ := h0
  have hx : R.Ext (R.lq c ⟨e + 1, .row .u8 []⟩ L.block o) := ⟨fun b o' h => by
      have : b ≠ L.block := fun e' => by rw [e', hF] at h; cases h
      simp only [Ctx.lq, if_neg this, h], rfl, fun c' ch' hc' => by
      by_cases h1 : c' = c
      · subst h1
        rw [hc] at hc'
        cases hc'
        exact ⟨⟨e + 1, .row .u8 []⟩, by simp only [Ctx.lq, if_true], Nat.le_succ e, fun e' => absurd e' (by simp)⟩
      · exact ⟨ch', by simp only [Ctx.lq, if_neg h1, hc'], Nat.le_refl _, fun _ => ⟨rfl, by simp only [Ctx.lq, if_neg h1]⟩⟩⟩
  refine ⟨hx, rfl, fun b o' h => ?_, fun b o' h => ?_, fun c' ch' hc' => ?_, fun c1 c2 ch1 ch2 L1 L2 g1 g2 g3 g4 g5 g6 g7 => ?_, fun b o' h => ?_, hm.env.trans hs⟩
  · simp only [Ctx.lq] at h
    split at h
    · rename_i h1
      subst h1
      rw [hb]; exact h
    · rename_i h1
      rw [kk b h1]; exact hm.F b o' h
  · have h1 : b ≠ L.block := fun e' => by
      have h' : R.U b = some o' := h
      rw [e', hU] at h'; cases h'
    rw [kk b h1]; exact hm.U b o' h
  · by_cases h1 : c' = c
    · subst h1
      simp only [Ctx.lq, if_true] at hc'
      cases hc'
      simp only [fm, Ctx.lq, if_true]
      exact ⟨by decide, by simp, trivial⟩
    · simp only [Ctx.lq, if_neg h1] at hc'
      have hch := hm.ch c' ch' hc'
      have hs : (R.lq c ⟨e + 1, .row .u8 []⟩ L.block o).σ c' = R.σ c' := by simp only [Ctx.lq, if_neg h1]
      have hblk : ∀ L', R.σ c' = some L' → ch'.body.mut = true → L'.block ≠ L.block := fun L' h2 h3 h4 => h1 (hm.apart c' c _ _ _ _ hc' hc h3 rfl h2 hσ h4)
      have hFn : ∀ b, b ≠ L.block → R.F b = none → (R.lq c ⟨e + 1, .row .u8 []⟩ L.block o).F b = none := fun b h2 h3 => by simp only [Ctx.lq, if_neg h2, h3]
      obtain ⟨ep, body⟩ := ch'
      cases body with
      | row t ys =>
        simp only [fm] at hch ⊢
        rw [hs]
        refine ⟨hch.1, hch.2.1, ?_⟩
        replace hch := hch.2.2
        cases hL : R.σ c' with
        | none => rw [hL] at hch; exact hch
        | some L' =>
          rw [hL] at hch
          obtain ⟨c1, c2, arr, E, c3, c4, c5, c6⟩ := hch
          have hne := hblk L' hL rfl
          exact ⟨hFn _ hne c1, c2, arr, E, (kk _ hne).trans c3, c4, c5, fun i hi => bZ hx.F _ _ _ (c6 i hi)⟩
      | frz t ys =>
        simp only [fm] at hch ⊢
        rw [hs]
        refine ⟨hch.1, hch.2.1, ?_⟩
        replace hch := hch.2.2
        cases hL : R.σ c' with
        | none => rw [hL] at hch; exact hch
        | some L' =>
          rw [hL] at hch
          obtain ⟨arr, E, fz, c3, c4, c5, c6⟩ := hch
          exact ⟨arr, E, fz, hx.F _ _ c3, c4, c5, fun i hi => bZ hx.F _ _ _ (c6 i hi)⟩
      | cells vs =>
        simp only [fm] at hch ⊢
        obtain ⟨L', hL, c1, c2, arr, E, c3, c4, c5, c6, c7⟩ := hch
        have hne := hblk L' hL rfl
        exact ⟨L', by rw [hs]; exact hL, hFn _ hne c1, c2, arr, E, (kk _ hne).trans c3, c4, c5, SV.fc hx _ _ c6, c7⟩
  · by_cases h1 : c1 = c
    · subst h1
      simp only [Ctx.lq, if_true] at g5
      cases g5
    · by_cases h2 : c2 = c
      · subst h2
        simp only [Ctx.lq, if_true] at g6
        cases g6
      · simp only [Ctx.lq, if_neg h1] at g1 g5
        simp only [Ctx.lq, if_neg h2] at g2 g6
        exact hm.apart _ _ _ _ _ _ g1 g2 g3 g4 g5 g6 g7
  · simp only [Ctx.lq] at h
    split at h
    · rename_i h1
      subst h1
      exact hU
    · exact hm.FU b o' h
theorem pL {te : TE} {hp : Hp} {src dst : TypeId} {x : SV} {c e : Nat} {s : List UInt8} (h : fk te hp src dst x = some (c, e, s)) :
    src = dst ∧ (∃ sz by' E ze ty sz2 by2 ze2 ty2, te dst = some ⟨sz, by', .slice E, ze, ty⟩ ∧ te E = some ⟨sz2, by2, .int .u8, ze2, ty2⟩) ∧ x = .own c e ∧ eF hp c e = some (.row .u8 s) ∧ s ≠ [] := by
  unfold fk at h
  split at h
  · rename_i hs
    split at h
    · rename_i h1
      split at h
      · rename_i h2
        split at h
        · split at h
          · rename_i h3
            cases h
            exact ⟨Nat.eq_of_beq_eq_true hs, ⟨_, _, _, _, _, _, _, _, _, h1, h2⟩, rfl, h3, by simp⟩
          · cases h
        · cases h
      · cases h
    · cases h
  · cases h
theorem Bm (hm : dj R w) {te : TE} (hte : lv P te) {src dst : TypeId} {x : SV} {v : Value} {c e : Nat} {s : List UInt8} (h : fk te R.hp src dst x = some (c, e, s)) (hx : SV.rel R x v) :
    EX P R w (convert src dst v) ⟨.lst .u8 s, [(c, ⟨e + 1, .row .u8 []⟩)]⟩ := by
  obtain ⟨rfl, ⟨sz, by', E, ze, ty, sz2, by2, ze2, ty2, hT, hE⟩, rfl, hc, hs⟩ := pL h
  obtain ⟨d, h1, h2⟩ := (hte src _ hT).desc
  simp only at h2
  subst h2
  obtain ⟨d2, g1, g2⟩ := (hte E _ hE).desc
  simp only at g2
  subst g2
  have hc := cC hc
  simp only [SV.rel] at hx
  have hp := Ctx.cT hc hx.2
  obtain ⟨_, _, ad, cap, rfl, h4, h5⟩ := Ctx.du hc hp
  have hlen : 0 < s.length := List.length_pos_iff.2 hs
  cases hσ : R.σ c with
  | none =>
    rw [hσ] at h5
    simp only [Chunk.shape] at h4 h5
    omega
  | some L =>
    rw [hσ] at h5
    simp only [Chunk.shape, Ty.size] at h4 h5
    have hcap : 0 < cap := by omega
    have had := h5.2 hcap
    subst had
    have h0 := hm.ch c _ hc
    simp only [fm, hσ] at h0
    obtain ⟨_, hl, hF, hU, arr, E', k1, k2, k3, k4⟩ := h0
    have hsh : w.shape? L.block = some (E', arr.size) := by unfold World.shape?; rw [k1]
    have hfr : (w.freeze ⟨L.block, arr.size, none⟩ 1).heap = w.heap.modify L.block fun
      | .cells c elem (lo, hi) => .cells c elem (if lo == hi then (arr.size, arr.size + 1) else (min lo arr.size, max hi (arr.size + 1)))
      | o => o := rfl
    have hlt := (Array.getElem?_eq_some_iff.1 k1).1
    have hb : (w.freeze ⟨L.block, arr.size, none⟩ 1).heap[L.block]? = some (.cells arr E' (arr.size, arr.size + 1)) := by
      rw [hfr, Array.getElem?_modify, if_pos rfl, k1]
      rfl
    have kk : ∀ b, b ≠ L.block → (w.freeze ⟨L.block, arr.size, none⟩ 1).heap[b]? = w.heap[b]? := fun b hb => by
      rw [hfr, Array.getElem?_modify, if_neg (fun e => hb e.symm)]
    have hlk : T1 w (w.freeze ⟨L.block, arr.size, none⟩ 1) := ⟨rfl, rfl, rfl⟩
    refine ⟨.slice (some ⟨L.block, L.base + 0 * 1, none⟩) s.length cap, w.freeze ⟨L.block, arr.size, none⟩ 1, R.lq c ⟨e + 1, .row .u8 []⟩ L.block _, ?_, XY hm hc hσ kk hb hlk, ?_⟩
    · simp [convert, run_underlying h1, run_underlying g1, markStringish, hsh, Chunk.shape]
    · simp only [SV.rel, Rep]
      refine ⟨hl, _, cap, rfl, h4, .inr ⟨L.block, L.base, arr, E', (arr.size, arr.size + 1), by simp, by simp only [Ctx.lq, if_true], by omega, fun i hi => ?_⟩⟩
      have hr := k4 i hi
      simp only [Ty.size] at hr ⊢
      exact bZ (XY hm hc hσ kk hb hlk).ext.F _ _ _ hr
theorem J7 {te : TE} (hte : lv P te) {T : TypeId} {x z : SV} {v y : Value} (h : (Sc te T x).run = some z) (hx : SV.rel R x v) (hy : ∃ n c, y = .slice none n c) :
    (∃ q l k, v = .slice q l k) ∧ ∃ u, (binOp .eql T v y).run P w = .ok u w ∧ SV.rel R z u := by
  unfold Sc at h
  split at h
  · rename_i sz by' e ze ty hT
    obtain ⟨d, h1, h2⟩ := (hte T _ hT).desc
    simp only at h2
    subst h2
    obtain ⟨n, c, rfl⟩ := hy
    split at h
    · rename_i t xs
      simp only [SV.rel] at hx
      obtain ⟨_, ad, cap, hv, _, hr⟩ := hx
      cases hv
      refine ⟨⟨_, _, _, rfl⟩, ?_⟩
      have hrun := Lib.run_eql_slice_nil (P := P) w T e ad xs.length cap n c h1
      refine ⟨_, hrun, ?_⟩
      cases hb : xs.isEmpty
      · rw [hb] at h
        cases h
        simp only [SV.rel]
        rcases hr with rfl | ⟨b, o, arr, E, fz, rfl, _⟩
        · cases hb
        · rfl
      · rw [hb] at h
        cases h
        simp only [SV.rel]
        exact ⟨_, rfl⟩
    · cases h
      simp only [SV.rel] at hx
      obtain ⟨ad, rfl⟩ := hx
      refine ⟨⟨_, _, _, rfl⟩, _, Lib.run_eql_slice_nil w T e ad 0 0 n c h1, ?_⟩
      simp only [SV.rel]
      exact ⟨_, rfl⟩
    · cases h
  · cases h
end
end Sx
end Go.Proofs.YtohjofabochgfaaGreat

namespace Go.Proofs.YtohjofabochgfaaGreat
namespace Sx
open Go
def Y9 (R : Ctx) : Out → Ending → World → Prop
  | .ret e, en, w' => ∃ v R', en = .returned v ∧ eH R R' w' e.upd ∧ SV.rel R' e.v v
  | .pan sv u, en, w' => ∃ v R', en = .panicked [{ v, recovered := false }] ∧ eH R R' w' u ∧ SV.rel R' sv v
def atr (P : Program) (f : FuncId) (vs : Array Value) (w : World) (Q : Ending → World → Prop) : Prop :=
  (∃ fn, P.funcs[f]? = some fn ∧ (fn.name == "runtime.NumGoroutine") = false ∧ fn.body.isNone = false ∧ Calls P f vs w Q) ∨
  ∃ v w', (callFunc f vs).run P w = .ok (.value v) w' ∧ Q (.returned v) w'
structure ac (P : Program) (f : FuncId) (s : cG) : Prop where
  calls : ∀ (R : Ctx) (w : World) (d : Nat) (args : List SV) (vs : List Value) (out : Out), dj R w → SV.bQ R args vs → (s.f d args R.hp).run = some out → atr P f vs.toArray w (Y9 R out)
def aV (P : Program) (Φ : Env) : Prop := ∀ f s, Φ f = some s → ac P f s
section
variable {P : Program} {R : Ctx} {w : World}
theorem OB {x : SV} {i : Int} {v : Value} (h : idxOf x = some i) (hx : SV.rel R x v) : ∃ kd, v = .int kd i := by
  unfold idxOf at h
  split at h
  · cases h
    simp only [SV.rel] at hx
    exact ⟨_, hx.1⟩
  · cases h
    simp only [SV.rel] at hx
    exact ⟨_, hx⟩
  · cases h
    simp only [SV.rel] at hx
    exact ⟨_, hx⟩
  · cases h
theorem HR : ∀ {ms : List (String × FuncId)} {name : String} {f : FuncId}, XQ ms name = some f → (name, f) ∈ ms
  | [], _, _, h => by cases h
  | (n, g) :: r, name, f, h => by
    simp only [XQ] at h
    cases hb : n == name
    · rw [hb] at h
      exact List.mem_cons_of_mem _ (HR h)
    · rw [hb] at h
      cases h
      have : n = name := by simpa using hb
      subst this
      exact List.mem_cons_self ..
theorem aaK {te : TE} (hte : lv P te) {t : TypeId} {name : String} {f : FuncId} (h : agd te t name = some f) (y : Value) (n : Nat) (hn : n = P.types.size + Made.depth) : (method n t y name).run P w = .ok (f, y) w := by
  unfold agd at h
  split at h
  · rename_i sz by' ms ze ty hT
    obtain ⟨d, hu, hd⟩ := (hte t _ hT).desc
    obtain ⟨⟨e, rfl⟩, hm⟩ := hd
    obtain ⟨i, m, h1, h2, h3, h4⟩ := hm _ (HR h)
    subst hn
    have hfuel : P.types.size + Made.depth = (P.types.size + Made.depth - 1) + 1 := by
      have : 0 < Made.depth := by decide
      omega
    rw [hfuel]
    simp [method, typeInfo, h1, h2, h3, h4, follow, receiverAt, run_underlying hu, Place.get]
  · cases h
theorem ru {st : St} {a : Act} (h : se R st a w) (x : Operand) : SV.rel R (st.eval x) (a.eval x) := by
  cases x with
  | tmp t =>
    simp only [St.eval, Act.eval]
    have hl := SV.aQ h.tm
    simp only [Array.length_toList] at hl
    by_cases ht : t < st.tm.length
    · have ht' : t < a.tmps.size := by simpa [hl] using ht
      have := SV.kJ h.tm t ht (by simpa using ht')
      simpa [List.getD_eq_getElem?_getD, List.getElem?_eq_getElem ht, Array.getD, ht'] using this
    · simp [List.getD_eq_getElem?_getD, List.getElem?_eq_none (Nat.le_of_not_lt ht), SV.rel]
  | const v =>
    simp only [St.eval, Act.eval, ap7]
    split
    · rename_i cs
      split
      · rename_i h1
        simp only [SV.rel]
        exact ⟨cs.toList, by simp, sF _, fun u hu => List.all_eq_true.1 h1 u hu⟩
      · simp only [SV.rel]
    · exact GP _
  | global g => simp [St.eval, SV.rel]
  | func f =>
    simp [St.eval, Act.eval, SV.rel, SV.bQ]
theorem Kt {α β : Type} (f : α → β) (xs : Array α) : Array.map f xs = (xs.toList.map f).toArray := by
  apply Array.ext'
  simp
theorem Jk {st : St} {a : Act} (h : se R st a w) : ∀ (l : List Operand), SV.bQ R (l.map st.eval) (l.map a.eval)
  | [] => qp
  | x :: l => by
    simp only [List.map_cons, SV.bQ]
    exact ⟨_, _, rfl, ru h x, Jk h l⟩
theorem N4 {st : St} {a : Act} (h : se R st a w) (ps : Array (Nat × Operand)) : Ly R (ps.toList.map fun p => (p.1, st.eval p.2)) (ps.map fun (i, x) => (i, a.eval x)).toList := by
  refine ⟨by simp, fun i hi hi' => ?_⟩
  simp only [List.getElem_map, Array.toList_map, true_and]
  exact ru h _
theorem bw {x : OT SV} {o : Out} (h : (iI x).run = some o) : ∃ z, x.run = some z ∧ o = .ret ⟨z, []⟩ := by
  obtain ⟨z, h1, h2⟩ := OT.run_map h
  exact ⟨z, h1, h2⟩
theorem nq {x : OT Eff} {o : Out} (h : (eff x).run = some o) : ∃ e, x.run = some e ∧ o = .ret e := by
  obtain ⟨z, h1, h2⟩ := OT.run_map h
  exact ⟨z, h1, h2⟩
def aio (R : Ctx) (a : Act) (dst : Option Tmp) (out : Out) (next : Act → World → Prop) (Q : Exit → Act → World → Prop) : Prop :=
  match out with
  | .ret e => ∀ R' w' v, eH R R' w' e.upd → SV.rel R' e.v v → next (a.put dst v) w'
  | .pan sv u => ∀ R' w' v, eH R R' w' u → SV.rel R' sv v → Q (.panic [{ v, recovered := false }]) a w'
theorem dp {o : Oper} {a : Act} {z : SV} {next : Act → World → Prop} {Q : Exit → Act → World → Prop} {s : Sem Value} (hm : dj R w) (hs : execOp a.eval o = do pure (.value (← s))) (h : je P R w s z)
    (hn : aio R a o.dst (.ret ⟨z, []⟩) next Q) : o.wp P a w next Q := by
  obtain ⟨v, h1, h2⟩ := h
  unfold Oper.wp
  rw [hs]
  simp only [Sem.run_bind, h1, Result.andThen_ok, Sem.run_pure]
  exact hn R w v (eH.nothing hm) h2
theorem kH {o : Oper} {a : Act} {e : Eff} {next : Act → World → Prop} {Q : Exit → Act → World → Prop} {s : Sem Value} (hs : execOp a.eval o = do pure (.value (← s))) (h : EX P R w s e)
    (hn : aio R a o.dst (.ret e) next Q) : o.wp P a w next Q := by
  obtain ⟨v, w', R', h1, h2, h3⟩ := h
  unfold Oper.wp
  rw [hs]
  simp only [Sem.run_bind, h1, Result.andThen_ok, Sem.run_pure]
  exact hn R' w' v h2 h3
theorem vr (hm : dj R w) {te : TE} (hte : lv P te) {T : TypeId} {ti : TI} (hT : te T = some ti) {x : SV} {v : Value} {cs : List SV} (hx : SV.rel R x v) (h : (Sx.loadCells R.hp ti.size x).run = some cs) :
    ∃ ad, v = .pointer (some ad) ∧ je P R w (loadVar T ad) (n5 ti.desc.agg cs) := by
  have ht := hte T ti hT
  obtain ⟨b, o, arr, E, fz, rfl, hb, hsz, hr, hone⟩ := DO hm hx h
  refine ⟨_, rfl, ?_⟩
  cases ha : ti.desc.agg
  · have h1 := ht.one ha
    rw [h1] at hsz hr
    refine ⟨arr[o], ?_, agb hsz hr⟩
    simp only [loadVar, Sem.run_bind, ht.Cg w, ha, Result.andThen_ok, Bool.false_eq_true, if_false]
    exact Mt hb hsz
  · refine ⟨_, ?_, vq hr hone⟩
    simp only [loadVar, Sem.run_bind, ht.Cg w, ha, Result.andThen_ok, if_true, ht.b9 w, zT hb hsz, Sem.run_pure]
theorem Gf (hm : dj R w) {te : TE} (hte : lv P te) {T : TypeId} {ti : TI} (hT : te T = some ti) {x y : SV} {v u : Value} {l : List SV} {up : List (Nat × Ch)} (hx : SV.rel R x v) (hy : SV.rel R y u) (hl : y.cells = some l)
    (hsz : l.length = ti.size) (h : (Sx.storeCells R.hp l x).run = some up) : ∃ ad w' R', v = .pointer (some ad) ∧ (storeVar T ad u).run P w = .ok () w' ∧ eH R R' w' up := by
  have ht := hte T ti hT
  obtain ⟨vs, h1, h2, h3⟩ := Cm hy hl
  have hlen := SV.aQ h2
  obtain ⟨ad, w', R', rfl, h4, h5⟩ := Bc (P := P) hm hx h2 h
  refine ⟨ad, w', R', rfl, ?_, h5⟩
  simp only [storeVar, Sem.run_bind, ht.b9 w, Result.andThen_ok, h1, Sem.run_ite, List.size_toArray]
  rw [if_neg (by omega)]
  exact h4
theorem Ik {te : TE} {Φ : Env} (hte : lv P te) (hΦ : aV P Φ) {st : St} {a : Act} {o : Oper} {d : Nat} {out : Out} (hst : se R st a w) (h : (Il te Φ st.hp d st.eval o.op).run = some out)
    {next : Act → World → Prop} {Q : Exit → Act → World → Prop} (hn : aio R a o.dst out next Q) : o.wp P a w next Q := by
  have hm := hst.mem
  have ev := ru hst
  rw [← hst.hp] at h
  obtain ⟨dst, op, type, pos, after, guard⟩ := o
  simp only at h hn
  cases op <;> simp only [Il] at h <;> try (cases h; done)
  case move x =>
    obtain ⟨z, h1, rfl⟩ := bw h
    cases h1
    exact hn R w _ (eH.nothing hm) (ev x)
  case assign x =>
    obtain ⟨z, h1, rfl⟩ := bw h
    cases h1
    exact hn R w _ (eH.nothing hm) (ev x)
  case pick c x y =>
    split at h
    · rename_i b hb
      obtain ⟨z, h1, rfl⟩ := bw h
      have hc := ev c
      rw [hb] at hc
      simp only [SV.rel] at hc
      have hrun : (execOp a.eval (Oper.mk dst (.pick c x y) type pos after guard)).run P w = .ok (.value (if b then a.eval x else a.eval y)) w := by
        simp [execOp, hc, asBool]
      unfold Oper.wp
      rw [hrun]
      cases b
      · cases h1; exact hn R w _ (eH.nothing hm) (ev y)
      · cases h1; exact hn R w _ (eH.nothing hm) (ev x)
    · cases h
  case alloc T =>
    split at h
    · rename_i ti hT
      obtain ⟨e, h1, rfl⟩ := nq h
      have ht := hte T ti hT
      obtain ⟨i, z, z1, z2, z3, z4, z5, z6, z7⟩ := ht.qh (R := R)
      obtain ⟨ad, w', R', r1, r2, r3⟩ := Ae (P := P) hm (v := z) (vs := z.cells.toList) (by simp) z5 z7 (by have := ht.small; simp [z6, ct]; omega) h1
      refine kH rfl ⟨_, w', R', ?_, r2, r3⟩ hn
      simp only [Instr.alloc, Sem.run_bind, zeroValue, typeInfo, run_program, Result.andThen_ok, z1, z4, Sem.run_pure, r1]
    · cases h
  case box T x =>
    split at h
    · rename_i l hl
      obtain ⟨e, h1, rfl⟩ := nq h
      obtain ⟨vs, v1, v2, v3⟩ := Cm (ev x) hl
      have hlen := SV.aQ v2
      have hsz : l.length ≤ 16777216 := by
        unfold Sx.newVar at h1
        split at h1
        · cases h1
        · rename_i ti hT
          split at h1
          · cases h1
          · rename_i hh
            have := (hte T ti hT).small
            have hh : l.length = ti.size := by simpa using hh
            omega
      obtain ⟨ad, w', R', r1, r2, r3⟩ := Ae (P := P) hm (v := a.eval x) (vs := vs) v1 v2 v3 (by unfold ct; omega) h1
      refine kH rfl ⟨_, w', R', ?_, r2, r3⟩ hn
      simp only [Instr.box, Sem.run_bind, Sem.run_pure, Result.andThen_ok, r1]
    · cases h
  case build T ps =>
    obtain ⟨z, h1, rfl⟩ := bw h
    exact dp hm rfl (TH hte h1 (N4 hst ps)) hn
  case buildSlice T len ps =>
    obtain ⟨e, h1, rfl⟩ := nq h
    exact kH rfl (Bo hm hte h1 (N4 hst ps)) hn
  case load T x =>
    split at h
    · rename_i ti hT
      obtain ⟨z, h1, rfl⟩ := bw h
      obtain ⟨cs, h2, rfl⟩ := OT.run_map h1
      obtain ⟨ad, hv, hg⟩ := vr (P := P) hm hte hT (ev x) h2
      refine dp hm rfl ?_ hn
      obtain ⟨v, g1, g2⟩ := hg
      refine ⟨v, ?_, g2⟩
      simp only [Instr.loadAt, hv, Instr.sureAddr, Sem.run_bind, Sem.run_pure, Result.andThen_ok, g1]
    · cases h
  case store T x y =>
    split at h
    · rename_i ti hT
      split at h
      · rename_i l hl
        split at h
        · rename_i hsz
          obtain ⟨u, h1, rfl⟩ := OT.run_map h
          obtain ⟨ad, w', R', hv, g1, g2⟩ := Gf (P := P) hm hte hT (ev x) (ev y) hl hsz h1
          have hrun : (execOp a.eval (Oper.mk dst (.store T x y) type pos after guard)).run P w = .ok .skip w' := by
            simp only [execOp, Instr.storeAt, hv, Instr.sureAddr, Sem.run_bind, Sem.run_pure, Result.andThen_ok, g1]
          unfold Oper.wp
          rw [hrun]
          exact hn R' w' _ g2 (by simp only [SV.rel])
        · cases h
      · cases h
    · cases h
  case nilCheck x =>
    have hx := ev x
    have hrun : ∀ ad, a.eval x = .pointer (some ad) → (execOp a.eval (Oper.mk dst (.nilCheck x) type pos after guard)).run P w = .ok (.value (a.eval x)) w := fun ad hv => by
      simp [execOp, hv]
    split at h
    · rename_i c e i off hs
      obtain ⟨z, h1, rfl⟩ := bw h
      cases h1
      rw [hs] at hx
      have hx' := hx
      simp only [SV.rel] at hx
      obtain ⟨⟨ad, hv⟩, _⟩ := hx
      unfold Oper.wp
      rw [hrun ad hv]
      exact hn R w _ (eH.nothing hm) hx'
    · rename_i t xs i off hs
      obtain ⟨z, h1, rfl⟩ := bw h
      cases h1
      rw [hs] at hx
      have hx' := hx
      simp only [SV.rel] at hx
      obtain ⟨_, b, o, arr, E, fz, hv, _⟩ := hx
      unfold Oper.wp
      rw [hrun _ hv]
      exact hn R w _ (eH.nothing hm) hx'
    · rename_i t y hs
      obtain ⟨z, h1, rfl⟩ := bw h
      cases h1
      rw [hs] at hx
      have hx' := hx
      simp only [SV.rel] at hx
      obtain ⟨y', hv, _⟩ := hx
      have hrun2 : (execOp a.eval (Oper.mk dst (.nilCheck x) type pos after guard)).run P w = .ok (.value (a.eval x)) w := by simp [execOp, hv]
      unfold Oper.wp
      rw [hrun2]
      exact hn R w _ (eH.nothing hm) hx'
    · cases h
  case binOp op T x y T2 =>
    split at h
    · rename_i hy
      obtain ⟨z, h1, rfl⟩ := bw h
      have hy' : ∃ n c, a.eval y = .slice none n c := by
        unfold HX at hy
        split at hy
        · exact ⟨_, _, rfl⟩
        · cases hy
      obtain ⟨n, c, hyv⟩ := hy'
      obtain ⟨⟨q, l, k, hxv⟩, u, hu1, hu2⟩ := J7 (P := P) (w := w) hte h1 (ev x) ⟨n, c, hyv⟩
      exact dp hm rfl ⟨u, eP (X := x) (Y := y) (by rw [hxv, hyv]; simp [eqGuard]) hu1, hu2⟩ hn
    · obtain ⟨z, h1, rfl⟩ := bw h
      exact dp hm rfl (PK hte h1 (ev x) (ev y)) hn
  case sliceToArrayPointer T x =>
    obtain ⟨z, h1, rfl⟩ := bw h
    exact dp hm rfl (Gx hte h1 (ev x)) hn
  case unOp op T x =>
    obtain ⟨z, h1, rfl⟩ := bw h
    exact dp hm rfl (Zn h1 (ev x)) hn
  case convert src dst' x =>
    split at h
    · rename_i s hs
      obtain ⟨z, h1, rfl⟩ := bw h
      cases h1
      obtain ⟨u, w', R', r1, r2, r3⟩ := Lg (P := P) hm hte hs (ev x)
      exact kH rfl ⟨u, w', R', r1, r2, r3⟩ hn
    · split at h
      · rename_i hs
        obtain ⟨z, h1, rfl⟩ := nq h
        cases h1
        exact kH rfl (Bm (P := P) hm hte hs (ev x)) hn
      · obtain ⟨z, h1, rfl⟩ := bw h
        exact dp hm rfl (K3 hte h1 (ev x)) hn
  case makeInterface T x =>
    split at h
    · rename_i ti hT
      obtain ⟨ds, hu, hd⟩ := (hte T ti hT).desc
      have hmk : ∀ y : Value, (Instr.makeInterface T y).run P w = .ok (.iface T y) w ∨ (match ti.desc with | .iface => True | .other => True | _ => False) := fun y => by
        unfold Instr.makeInterface
        simp only [Sem.run_bind, run_underlying hu, Result.andThen_ok]
        cases hk : ti.desc <;> rw [hk] at hd <;> simp only at hd <;> first
          | (exact .inr trivial; done)
          | (left; obtain ⟨_, rfl, _⟩ := hd; rfl)
          | (left; obtain ⟨⟨_, rfl⟩, _⟩ := hd; rfl)
          | (left; subst hd; rfl)
      have hq : ¬ (match ti.desc with | .iface => True | .other => True | _ => False) := fun hq => by
        cases hk : ti.desc <;> rw [hk] at hq h <;> first | exact hq | (simp only at h; cases h)
      have h2 : (iI (.ok (.iface T (st.eval x)))).run = some out := by
        cases hk : ti.desc <;> rw [hk] at h hq <;> first | exact h | (exact absurd trivial hq)
      obtain ⟨z, h1, rfl⟩ := bw h2
      cases h1
      refine dp hm rfl ⟨.iface T (a.eval x), (hmk _).resolve_right hq, ?_⟩ hn
      simp only [SV.rel]
      exact ⟨_, rfl, ev x⟩
    · cases h
  case makeFunc f first caps =>
    obtain ⟨z, h1, rfl⟩ := bw h
    cases h1
    refine dp hm rfl ⟨_, rfl, ?_⟩ hn
    simp only [SV.rel]
    exact ⟨first.toList.map a.eval, caps.toList.map a.eval, by rw [Kt, Kt], Jk hst _, Jk hst _⟩
  case makeSlice T l c =>
    split at h
    · rename_i l' c' hl hc
      obtain ⟨e, h1, rfl⟩ := nq h
      have e1 := ev l
      have e2 := ev c
      rw [hl] at e1
      rw [hc] at e2
      simp only [SV.rel] at e1 e2
      have := DJ (P := P) hm hte h1
      rw [← e1.1, ← e2.1] at this
      exact kH rfl this hn
    · cases h
  case slice T x lo hi mx =>
    obtain ⟨z, h1, rfl⟩ := bw h
    have some_rel : ∀ (q : Option Operand) (y : SV), q.map st.eval = some y → ∃ v, q.map a.eval = some v ∧ SV.rel R y v := fun q y hy => by
      cases q with
      | none => cases hy
      | some u => cases hy; exact ⟨_, rfl, ev u⟩
    have none_rel : ∀ (q : Option Operand), q.map st.eval = none → q.map a.eval = none := fun q hq => by
      cases q with
      | none => rfl
      | some u => cases hq
    exact dp hm rfl (Je hm hte h1 (ev x) (some_rel lo) (none_rel lo) (some_rel hi) (none_rel hi) (some_rel mx) (none_rel mx)) hn
  case fieldAddr S x f =>
    split at h
    · rename_i fs _ _ hS
      split at h
      · rename_i o fi hf
        split at h
        · cases h
        · rename_i h0
          obtain ⟨z, h1, rfl⟩ := bw h
          exact dp hm rfl (Em hte hS rfl hf h0 h1 (ev x)) hn
      · cases h
    · cases h
  case field S x f =>
    split at h
    · rename_i fs _ _ l hS hl
      split at h
      · rename_i o fi hf
        split at h
        · rename_i hle
          obtain ⟨z, h1, rfl⟩ := bw h
          cases h1
          have hx := ev x
          rw [hl] at hx
          exact dp hm rfl (S5 hte hS rfl hf hle hx) hn
        · cases h
      · cases h
    · cases h
  case indexAddr T x k =>
    split at h
    · rename_i i hk
      obtain ⟨z, h1, rfl⟩ := bw h
      obtain ⟨kd, e1⟩ := OB hk (ev k)
      have := DT (P := P) (w := w) (kd := kd) hte h1 (ev x)
      rw [← e1] at this
      exact dp hm rfl this hn
    · cases h
  case index T x k =>
    split at h
    · rename_i i hk
      obtain ⟨z, h1, rfl⟩ := bw h
      obtain ⟨kd, e1⟩ := OB hk (ev k)
      have := Gv (P := P) (w := w) (kd := kd) hte h1 (ev x)
      rw [← e1] at this
      exact dp hm rfl this hn
    · cases h
  case extract t i =>
    split at h
    · rename_i l hl
      split at h
      · rename_i v hv
        obtain ⟨z, h1, rfl⟩ := bw h
        cases h1
        have hx := ev t
        rw [hl] at hx
        simp only [SV.rel] at hx
        obtain ⟨vs, he, hr⟩ := hx
        have hlen := SV.aQ hr
        obtain ⟨hi, hvi⟩ := List.getElem?_eq_some_iff.1 hv
        refine dp hm rfl ⟨vs[i]'(by omega), ?_, ?_⟩ hn
        · simp [Instr.extract, he, show i < vs.length by omega]
        · rw [← hvi]; exact SV.kJ hr i hi (by omega)
      · cases h
    · cases h
  case call c =>
    obtain ⟨callee, args, argTypes⟩ := c
    simp only at h
    have hargs := Jk hst args.toList
    have go : ∀ (f' : FuncId) (s : cG) (us : List SV) (l : List Value), Φ f' = some s → SV.bQ R us l → (s.f d us R.hp).run = some out →
        (∀ r, (execOp a.eval (Oper.mk dst (.call { callee := callee, args, argTypes }) type pos after guard)).run P w = r ↔ (callFunc f' l.toArray).run P w = r) → (Oper.mk dst (.call { callee := callee, args, argTypes }) type pos after guard).wp P a w next Q := by
      intro f' s us l hs hr hout hexec
      have hc := (hΦ _ _ hs).calls R w d us l out hm hr hout
      rcases hc with ⟨fn, f1, f2, f3, hc⟩ | ⟨v, w', hv, hp⟩
      · have hrun : (callFunc f' l.toArray).run P w = .ok (.enter f' l.toArray) w := by
          have f2' : ¬ fn.name = "runtime.NumGoroutine" := by simpa using f2
          have f3' : ¬ fn.body = none := fun e => by rw [e] at f3; simp at f3
          simp [callFunc, f1, f2', f3']
        unfold Oper.wp
        rw [(hexec _).2 hrun, Oper.upon_enter]
        refine hc.mono fun en w' hp => ?_
        cases out with
        | ret e =>
          obtain ⟨v, R', rfl, p1, p2⟩ := hp
          exact hn R' w' v p1 p2
        | pan sv u =>
          obtain ⟨v, R', rfl, p1, p2⟩ := hp
          exact hn R' w' v p1 p2
      · unfold Oper.wp
        rw [(hexec _).2 hv]
        cases out with
        | ret e =>
          obtain ⟨v', R', he, p1, p2⟩ := hp
          cases he
          exact hn R' w' v p1 p2
        | pan sv u =>
          obtain ⟨v', R', he, p1, p2⟩ := hp
          cases he
    split at h
    · rename_i f
      unfold ahQ at h
      split at h
      · rename_i f' first caps hf
        split at h
        · rename_i s hs
          have hx := ev f
          rw [hf] at hx
          simp only [SV.rel] at hx
          obtain ⟨l1, l2, he, r1, r2⟩ := hx
          refine go f' s _ (l1 ++ args.toList.map a.eval ++ l2) hs (SV.cB (SV.cB r1 hargs) r2) h fun r => ?_
          have : (execOp a.eval (Oper.mk dst (.call { callee := .value f, args, argTypes }) type pos after guard)).run P w = (callFunc f' (l1 ++ args.toList.map a.eval ++ l2).toArray).run P w := by
            simp [execOp, resolve, he, Deferred.ofValue, invoke, Kt]
          rw [this]
        · cases h
      · cases h
    · rename_i recv name
      unfold Lf at h
      split at h
      · rename_i t v hv
        split at h
        · rename_i f' hf
          split at h
          · rename_i s hs
            have hx := ev recv
            rw [hv] at hx
            simp only [SV.rel] at hx
            obtain ⟨y, he, hy⟩ := hx
            refine go f' s (v :: args.toList.map st.eval) (y :: args.toList.map a.eval) hs (by simp only [SV.bQ]; exact ⟨_, _, rfl, hy, hargs⟩) h fun r => ?_
            have hmeth := aaK (P := P) (w := w) hte hf y _ rfl
            have : (execOp a.eval (Oper.mk dst (.call { callee := .invoke recv name, args, argTypes }) type pos after guard)).run P w = (callFunc f' (y :: args.toList.map a.eval).toArray).run P w := by
              have e1 : (Array.map a.eval args) = (args.toList.map a.eval).toArray := Kt _ _
              have e2 : (#[Value.iface t y] ++ (args.toList.map a.eval).toArray)[0]? = some (.iface t y) := by simp
              have e3 : (#[Value.iface t y] ++ (args.toList.map a.eval).toArray).extract 1 (#[Value.iface t y] ++ (args.toList.map a.eval).toArray).size = (args.toList.map a.eval).toArray := by
                apply Array.ext'
                simp only [Array.toList_extract, Array.toList_append, List.extract_eq_take_drop]
                simp
                exact List.take_of_length_le (by simp)
              have e4 : #[y] ++ (args.toList.map a.eval).toArray = (y :: args.toList.map a.eval).toArray := by simp
              simp only [execOp, resolve, he, e1, Sem.run_bind, Sem.run_pure, Result.andThen_ok, invoke, e2, e3, callMethod, run_program, hmeth, e4]
            rw [this]
          · cases h
        · cases h
      · cases h
    · split at h
      · rename_i x T Ts hax hat
        obtain ⟨z, h1, rfl⟩ := bw h
        have ha : args = #[x] := by apply Array.ext'; simpa using hax
        have hat' : argTypes = (T :: Ts).toArray := by apply Array.ext'; simpa using hat
        subst ha
        have := SJ (P := P) (Tr := type) (Ts := Ts) hm hte h1 (ev x)
        rw [← hat'] at this
        refine dp hm ?_ this hn
        simp [execOp, resolve, invoke, builtin]
      · cases h
    · split at h
      · rename_i s x T T' hax hat
        split at h
        · rename_i hsl
          obtain ⟨e, h1, rfl⟩ := nq h
          have ha : args = #[s, x] := by apply Array.ext'; simpa using hax
          have hat' : argTypes = #[T, T'] := by apply Array.ext'; simpa using hat
          subst ha
          subst hat'
          have := Gz (P := P) (Tr := type) hm hte hsl h1 (ev s) (ev x)
          refine kH ?_ this hn
          simp [execOp, resolve, invoke, builtin]
        · cases h
      · cases h
    · split at h
      · rename_i s x T T' hax hat
        obtain ⟨e, h1, rfl⟩ := nq h
        have ha : args = #[s, x] := by apply Array.ext'; simpa using hax
        have hat' : argTypes = #[T, T'] := by apply Array.ext'; simpa using hat
        subst ha
        subst hat'
        have := Ph (P := P) (Tr := type) (T' := T') hm hte h1 (ev s) (ev x)
        refine kH ?_ this hn
        simp [execOp, resolve, invoke, builtin]
      · cases h
    · split at h
      · rename_i x y hax
        split at h
        · rename_i p q hp hq
          obtain ⟨z, h1, rfl⟩ := bw h
          cases h1
          have ha : args = #[x, y] := by apply Array.ext'; simpa using hax
          subst ha
          have e1 := ev x
          have e2 := ev y
          rw [hp] at e1
          rw [hq] at e2
          simp only [SV.rel] at e1 e2
          refine dp (s := Builtin.max_ argTypes type #[a.eval x, a.eval y]) hm ?_ ?_ hn
          · simp [execOp, resolve, invoke, builtin]
          · refine cg ?_ ?_
            · simp [Builtin.max_, e1.1, e2.1, Builtin.max2]
            · split
              · exact e2.2
              · exact e1.2
        · cases h
      · cases h
    · cases h
end
end Sx
end Go.Proofs.YtohjofabochgfaaGreat

namespace Go.Proofs.YtohjofabochgfaaGreat
namespace Sx
open Go
section
variable {P : Program} {te : TE} {Φ : Env}
structure I1 (R₀ : Ctx) (K : SE → St → Prop) (Q : Exit → Act → World → Prop) : Prop where
  normal : ∀ R st a w, R₀.Ext R → se R st a w → K .normal st → Q .normal a w
  ret : ∀ R st a w, R₀.Ext R → se R st a w → K .ret st → Q .ret a w
  exit : ∀ R st a w id, R₀.Ext R → se R st a w → K (.exit id) st → Q (.exit id) a w
  pan : ∀ R st a w sv v, R₀.Ext R → se R st a w → SV.rel R sv v → K (.pan sv) st → Q (.panic [{ v, recovered := false }]) a w
theorem se.put {R R' : Ctx} {st : St} {a : Act} {w w' : World} {e : Eff} {v : Value} (h : se R st a w) (ha : eH R R' w' e.upd) (hv : SV.rel R' e.v v) (dst : Option Tmp) : se R' (st.put dst e) (a.put dst v) w' := by
  refine ⟨?_, ha.mem, ?_, ?_⟩
  · rw [ha.hp, h.hp]; rfl
  · have := SV.fc ha.ext _ _ h.tm
    cases dst with
    | none => exact this
    | some d =>
      simp only [St.put, Bh, Act.put, Array.toList_setIfInBounds]
      exact SV.WN this d hv
  · cases dst <;> exact h.defers
theorem se.undef {R : Ctx} {st : St} {a : Act} {w : World} (h : se R st a w) (dst : Option Tmp) : se R (st.put dst ⟨.undef, []⟩) (a.put dst Go.undef) w :=
  h.put (eH.nothing h.mem) (by simp only [SV.rel]) dst
theorem se.arS {R R' : Ctx} {st : St} {a : Act} {w w' : World} {u : List (Nat × Ch)} (h : se R st a w) (ha : eH R R' w' u) : se R' ⟨st.tm, fM st.hp u⟩ a w' :=
  ⟨by rw [ha.hp, h.hp], ha.mem, SV.fc ha.ext _ _ h.tm, h.defers⟩
theorem sb {R : Ctx} {st : St} {a : Act} {w : World} (h : se R st a w) {ops : Array Oper} {o : Oper} {b : Bool} (hg : guarded ops.toList st.tm o = some b) : Region.wanted o (yielded ops a.tmps) = b := by
  unfold guarded at hg
  unfold Region.wanted
  split at hg
  · rename_i hn
    rw [hn]
    exact Option.some.inj hg
  · rename_i j want hj
    rw [hj]
    simp only
    split at hg
    · rename_i d hd
      have hd' : (ops[j]?).bind (·.dst) = some d := by simpa using hd
      have hl := SV.aQ h.tm
      simp only [Array.length_toList] at hl
      have get : st.tm.getD d .bH ≠ .bH → ∃ hlt : d < a.tmps.size, SV.rel R (st.tm.getD d .bH) a.tmps[d] := fun hne => by
        by_cases ht : d < st.tm.length
        · have ht' : d < a.tmps.size := Nat.lt_of_lt_of_eq ht hl.symm
          refine ⟨ht', ?_⟩
          have := SV.kJ h.tm d ht (by simpa using ht')
          simpa [List.getD_eq_getElem?_getD, List.getElem?_eq_getElem ht] using this
        · exact absurd (by simp [List.getD_eq_getElem?_getD, List.getElem?_eq_none (Nat.le_of_not_lt ht)]) hne
      split at hg
      · rename_i q hq
        obtain ⟨hlt, hr⟩ := get (by rw [hq]; exact fun e => by cases e)
        rw [hq] at hr
        simp only [SV.rel] at hr
        have hy : yielded ops a.tmps j = some q := by
          unfold yielded
          rw [hd']
          simp [hlt, hr]
        rw [hy, ← Option.some.inj hg]
        rfl
      · rename_i hq
        obtain ⟨hlt, hr⟩ := get (by rw [hq]; exact fun e => by cases e)
        rw [hq] at hr
        simp only [SV.rel] at hr
        have hy : yielded ops a.tmps j = none := by
          unfold yielded
          rw [hd']
          simp [hlt, hr, Go.undef]
        rw [hy, ← Option.some.inj hg]
        rfl
      · cases hg
    · cases hg
theorem mI (hte : lv P te) (hΦ : aV P Φ) {R₀ : Ctx} {ops : Array Oper} {K : SE → St → Prop} {Q : Exit → Act → World → Prop} (hK : I1 R₀ K Q) :
    ∀ (l : List Oper) (R : Ctx) (st : St) (a : Act) (w : World), R₀.Ext R → se R st a w → n9 te Φ ops.toList K l st → wpList P ops Q l a w
  | [], R, st, a, w, hx, hst, h => hK.normal R st a w hx hst h
  | o :: r, R, st, a, w, hx, hst, h => by
    simp only [n9] at h
    split at h
    · exact h.elim
    · rename_i b hb
      have hw := sb hst hb
      simp only [wpList, hw]
      cases b
      · simp only [Bool.false_eq_true, if_false]
        exact mI hte hΦ hK r R _ _ w hx (hst.undef o.dst) h
      · simp only [if_true]
        refine .inl ?_
        obtain ⟨out, h1, h2⟩ := OT.Ux h
        refine Ik hte hΦ hst h1 ?_
        cases out with
        | ret e => exact fun R' w' v ha hv => mI hte hΦ hK r R' _ _ w' (hx.trans ha.ext) (hst.put ha hv o.dst) h2
        | pan sv u => exact fun R' w' v ha hv => hK.pan R' _ a w' sv v (hx.trans ha.ext) (hst.arS ha) hv h2
def LV (P : Program) (R₀ : Ctx) (b : Code) (l : St → (SE → St → Prop) → Prop) : Prop :=
  ∀ (R : Ctx) (st : St) (a : Act) (w : World) (K : SE → St → Prop) (Q : Exit → Act → World → Prop), R₀.Ext R → se R st a w → l st K → I1 R₀ K Q → b.wp P Q a w
def blocks : Code → List (Nat × Code)
  | .seq a b => blocks a ++ blocks b
  | .cond _ a b => blocks a ++ blocks b
  | .block id c => (id, c) :: blocks c
  | .loop c => blocks c
  | .scope c => blocks c
  | _ => []
def EY (P : Program) (R₀ : Ctx) (Λ : Lam) (c : Code) : Prop := ∀ p ∈ blocks c, ∀ l, Λ p.1 = some l → LV P R₀ (.block p.1 p.2) l
def aZ (P : Program) (te : TE) (Φ : Env) : Prop := ∀ (R₀ : Ctx) (id : Nat) (ops : Array Oper) (K : SE → St → Prop) (Q : Exit → Act → World → Prop) (R : Ctx) (st : St) (a : Act) (w : World), I1 R₀ K Q → R₀.Ext R → se R st a w →
  fe Φ ops (nY ops) = true → e8 te Φ ops.toList (nY ops) (aaR te Φ ops (nY ops) st) K st 0 ops.toList [] → (Code.region id ops true).wp P Q a w
theorem aiA {Λ : Lam} {n : Nat} {c : Code} {st : St} {K : SE → St → Prop} : wps te Φ Λ (n + 1) c st K = (match c with
      | .skip => K .normal st
      | .region _ ops draw => cond draw (cond (fe Φ ops (nY ops)) (e8 te Φ ops.toList (nY ops) (aaR te Φ ops (nY ops) st) K st 0 ops.toList []) False) (n9 te Φ ops.toList K ops.toList st)
      | .seq a b => wps te Φ Λ n a st fun e st' => match e with
        | .normal => wps te Φ Λ n b st' K
        | e => K e st'
      | .cond c a b => match st.eval c with
        | .bool t => cond t (wps te Φ Λ n a st K) (wps te Φ Λ n b st K)
        | .amQ => (wps te Φ Λ n a st K) ∧ (wps te Φ Λ n b st K)
        | _ => False
      | .block id body => match Λ id with
        | some l => l st K
        | none => wps te Φ Λ n body st fun e st' => match e with
          | .exit j => cond (j == id) (K .normal st') (K (.exit j) st')
          | e => K e st'
      | .loop body => wps te Φ Λ n body st fun e st' => match e with
          | .normal => wps te Φ Λ n (.loop body) st' K
          | e => K e st'
      | .exit id => K (.exit id) st
      | .ret => K .ret st
      | _ => False) := by
  cases c <;> try rfl
  case region id ops draw =>
    simp only
    rw [← HZ, ← Ta]
    rfl
  case block id body =>
    simp only
    have : ∀ (e : SE) (st' : St), (match e with
        | .exit j => ifB (Nat.beq j id) (K .normal st') (K (.exit j) st')
        | e => K e st') = (match e with
        | .exit j => cond (j == id) (K .normal st') (K (.exit j) st')
        | e => K e st') := fun e st' => by
      cases e <;> try rfl
      rename_i j
      have hb : Nat.beq j id = (j == id) := by
        rw [Bool.eq_iff_iff, beq_iff_eq]
        exact ⟨Nat.eq_of_beq_eq_true, fun e => by rw [e]; exact Nat.beq_refl id⟩
      simp only [hb, X0]
    show (match Λ id with
      | some l => l st K
      | none => wps te Φ Λ n body st fun e st' => match e with
        | .exit j => ifB (Nat.beq j id) (K .normal st') (K (.exit j) st')
        | e => K e st') = _
    simp only [this]
def Y8 (P : Program) (c : Code) (Q : Exit → Act → World → Prop) (a : Act) (w : World) : Prop :=
  ∀ (b : Frame) (k : List Item) (cs : List Frame), ∃ e a' w', Q e a' w' ∧ Arrives P (lone (b.at a (.code c :: .inLoop c :: k)) cs w) b k cs e a' w'
theorem zR {c : Code} {Q : Exit → Act → World → Prop} {a : Act} {w : World} (h : Y8 P c Q a w) : (Code.loop c).wp P Q a w :=
  fun b k cs => let ⟨e, a', w', hq, harr⟩ := h b k cs; ⟨e, a', w', hq, .of_steps (.one step_loop) harr⟩
theorem DN {c : Code} {Q : Exit → Act → World → Prop} {a : Act} {w : World} (h : c.wp P (fun e a' w' => match e with | .normal => Y8 P c Q a' w' | e => Q e a' w') a w) : Y8 P c Q a w := by
  intro b k cs
  obtain ⟨e, a₁, w₁, hq, harr⟩ := h b (.inLoop c :: k) cs
  cases e with
  | normal =>
    obtain ⟨e₂, a₂, w₂, hq₂, harr₂⟩ := hq b k cs
    exact ⟨e₂, a₂, w₂, hq₂, .of_steps (Steps.trans harr (.one step_inLoop)) harr₂⟩
  | exit id => exact ⟨_, a₁, w₁, hq, .pass (x := .inLoop c) rfl (fun _ _ => .inl (by simp)) harr⟩
  | goto l => exact ⟨_, a₁, w₁, hq, .pass (x := .inLoop c) rfl (fun _ _ => .inl (by simp)) harr⟩
  | ret => exact ⟨_, a₁, w₁, hq, .pass (x := .inLoop c) rfl (fun _ _ => .inl (by simp)) harr⟩
  | panic ch => exact ⟨_, a₁, w₁, hq, .pass (x := .inLoop c) rfl (fun _ _ => .inl (by simp)) harr⟩
  | outgrown => exact ⟨_, a₁, w₁, hq, .pass (x := .inLoop c) rfl (fun _ _ => .inl (by simp)) harr⟩
def Shown (P : Program) (c : Code) (Q : Exit → Act → World → Prop) (a : Act) (w : World) : Prop :=
  match c with
  | .loop body => Y8 P body Q a w
  | c => c.wp P Q a w
theorem Shown.wp {c : Code} {Q : Exit → Act → World → Prop} {a : Act} {w : World} (h : Shown P c Q a w) : c.wp P Q a w := by
  cases c <;> first | exact h | exact zR h
theorem ft (hte : lv P te) (hΦ : aV P Φ) (hany : aZ P te Φ) {R₀ : Ctx} {Λ : Lam} : ∀ (n : Nat) (c : Code) (R : Ctx) (st : St) (a : Act) (w : World) (K : SE → St → Prop) (Q : Exit → Act → World → Prop), EY P R₀ Λ c →
    R₀.Ext R → se R st a w → wps te Φ Λ n c st K → I1 R₀ K Q → Shown P c Q a w
  | 0, c, R, st, a, w, K, Q, _, _, _, h, _ => h.elim
  | n + 1, c, R, st, a, w, K, Q, hΛ, hx, hst, h, hK => by
    rw [aiA] at h
    cases c <;> simp only at h <;> try (exact h.elim)
    case skip => exact wp_skip (hK.normal R st a w hx hst h)
    case region id ops draw =>
      cases draw
      · exact wp_region_list (mI hte hΦ hK _ R st a w hx hst h)
      · cases hr : fe Φ ops (nY ops)
        · rw [hr] at h; exact h.elim
        · rw [hr] at h
          exact hany R₀ id ops K Q R st a w hK hx hst hr h
    case seq x y =>
      refine wp_seq (ft hte hΦ hany n x R st a w _ _ (fun p hp => hΛ p (by simp [blocks, hp])) hx hst h ⟨?_, ?_, ?_, ?_⟩).wp
      · exact fun R' st' a' w' hx' hst' hk => (ft hte hΦ hany n y R' st' a' w' K Q (fun p hp => hΛ p (by simp [blocks, hp])) hx' hst' hk hK).wp
      · exact fun R' st' a' w' hx' hst' hk => hK.ret R' st' a' w' hx' hst' hk
      · exact fun R' st' a' w' id hx' hst' hk => hK.exit R' st' a' w' id hx' hst' hk
      · exact fun R' st' a' w' sv v hx' hst' hv hk => hK.pan R' st' a' w' sv v hx' hst' hv hk
    case cond c x y =>
      split at h
      · rename_i t ht
        have hc := ru hst c
        rw [ht] at hc
        simp only [SV.rel] at hc
        refine wp_cond hc ?_
        cases t
        · exact (ft hte hΦ hany n y R st a w K Q (fun p hp => hΛ p (by simp [blocks, hp])) hx hst h hK).wp
        · exact (ft hte hΦ hany n x R st a w K Q (fun p hp => hΛ p (by simp [blocks, hp])) hx hst h hK).wp
      · rename_i ht
        have hc := ru hst c
        rw [ht] at hc
        simp only [SV.rel] at hc
        obtain ⟨t, hc⟩ := hc
        refine wp_cond hc ?_
        cases t
        · exact (ft hte hΦ hany n y R st a w K Q (fun p hp => hΛ p (by simp [blocks, hp])) hx hst h.2 hK).wp
        · exact (ft hte hΦ hany n x R st a w K Q (fun p hp => hΛ p (by simp [blocks, hp])) hx hst h.1 hK).wp
      · exact h.elim
    case block id body =>
      split at h
      · rename_i l hl
        exact hΛ (id, body) (by simp [blocks]) l hl R st a w K Q hx hst h hK
      · refine wp_block (ft hte hΦ hany n body R st a w _ _ (fun p hp => hΛ p (by simp [blocks, hp])) hx hst h ⟨?_, ?_, ?_, ?_⟩).wp
        · exact fun R' st' a' w' hx' hst' hk => hK.normal R' st' a' w' hx' hst' hk
        · exact fun R' st' a' w' hx' hst' hk => hK.ret R' st' a' w' hx' hst' hk
        · intro R' st' a' w' j hx' hst' hk
          simp only [Exit.inBlock]
          by_cases e : j = id
          · subst e
            simp only [BEq.rfl, cond_true] at hk
            simp only [if_true]
            exact hK.normal R' st' a' w' hx' hst' hk
          · have : (j == id) = false := by simpa using e
            simp only [this, cond_false] at hk
            simp only [e, if_false]
            exact hK.exit R' st' a' w' j hx' hst' hk
        · exact fun R' st' a' w' sv v hx' hst' hv hk => hK.pan R' st' a' w' sv v hx' hst' hv hk
    case loop body =>
      refine DN (ft hte hΦ hany n body R st a w _ _ (fun p hp => hΛ p (by simp [blocks, hp])) hx hst h ⟨?_, ?_, ?_, ?_⟩).wp
      · exact fun R' st' a' w' hx' hst' hk => ft hte hΦ hany n (.loop body) R' st' a' w' K Q hΛ hx' hst' hk hK
      · exact fun R' st' a' w' hx' hst' hk => hK.ret R' st' a' w' hx' hst' hk
      · exact fun R' st' a' w' id hx' hst' hk => hK.exit R' st' a' w' id hx' hst' hk
      · exact fun R' st' a' w' sv v hx' hst' hv hk => hK.pan R' st' a' w' sv v hx' hst' hv hk
    case exit id => exact wp_exit (hK.exit R st a w id hx hst h)
    case ret => exact wp_ret (hK.ret R st a w hx hst h)
theorem L0 (hte : lv P te) (hΦ : aV P Φ) (hany : aZ P te Φ) {R₀ : Ctx} {Λ : Lam} {n : Nat} {c : Code} {R : Ctx} {st : St} {a : Act} {w : World} {K : SE → St → Prop} {Q : Exit → Act → World → Prop} (hΛ : EY P R₀ Λ c)
    (hx : R₀.Ext R) (hst : se R st a w) (h : wps te Φ Λ n c st K) (hK : I1 R₀ K Q) : c.wp P Q a w := (ft hte hΦ hany n c R st a w K Q hΛ hx hst h hK).wp
end
end Sx
end Go.Proofs.YtohjofabochgfaaGreat

namespace Go.Proofs.YtohjofabochgfaaGreat
namespace Sx
open Go
section
variable {P : Program} {te : TE} {Φ : Env}
theorem agH {R : Ctx} {st : St} {a : Act} {w : World} (h : se R st a w) (t : Nat) : SV.rel R (st.tm.getD t .bH) (a.tmps.getD t Go.undef) := ru h (.tmp t)
def WL (tmps : Array Value) : ResultVar → Sem Value
  | .tmp t => pure (tmps.getD t Go.undef)
  | .cell b t => do loadVar t (← asAddr (tmps.getD b Go.undef))
theorem TY (ad : Addr) : asAddr (.pointer (some ad)) = pure ad := rfl
theorem jJ (hte : lv P te) {R : Ctx} {st : St} {a : Act} {w : World} (h : se R st a w) : ∀ (rs : List ResultVar) (K : List SV → Prop), oo te st rs K →
    ∃ l vs, K l ∧ SV.bQ R l vs ∧ (rs.mapM (WL a.tmps)).run P w = .ok vs w
  | [], K, hk => ⟨[], [], hk, qp, rfl⟩
  | .tmp t :: r, K, hk => by
    obtain ⟨l, vs, h1, h2, h3⟩ := jJ hte h r _ hk
    refine ⟨_, a.tmps.getD t Go.undef :: vs, h1, ?_, ?_⟩
    · simp only [SV.bQ]; exact ⟨_, _, rfl, agH h t, h2⟩
    · simp only [List.mapM_cons, WL, Sem.run_bind, Sem.run_pure, Result.andThen_ok, h3]
  | .cell b T :: r, K, hk => by
    simp only [oo] at hk
    split at hk
    · rename_i ti hT
      obtain ⟨cs, h0, h1⟩ := OT.Ux hk
      obtain ⟨l, vs, h1, h2, h3⟩ := jJ hte h r _ h1
      rw [← h.hp] at h0
      obtain ⟨ad, hv, v, g1, g2⟩ := vr (P := P) h.mem hte hT (agH h b) h0
      refine ⟨_, v :: vs, h1, ?_, ?_⟩
      · simp only [SV.bQ]; exact ⟨_, _, rfl, g2, h2⟩
      · simp only [List.mapM_cons, WL, Sem.run_bind, hv, TY, Sem.run_pure, Result.andThen_ok, g1, h3]
    · exact hk.elim
theorem r5 (hte : lv P te) {R : Ctx} {st : St} {a : Act} {w : World} (h : se R st a w) {fn : Func} {K : SV → Prop} (hk : WK te fn st K) :
    ∃ x v, K x ∧ SV.rel R x v ∧ (results fn a.tmps).run P w = .ok v w := by
  obtain ⟨l, vs, h1, h2, h3⟩ := jJ hte h _ _ hk
  have hrun : (results fn a.tmps).run P w = .ok (if h : vs.toArray.size = 1 then vs.toArray[0] else .tuple vs.toArray) w := by
    have hfun : results fn a.tmps = (do
        let vs ← fn.results.mapM (WL a.tmps)
        pure (if h : vs.size = 1 then vs[0] else .tuple vs)) := by
      unfold results
      congr 1
    rw [hfun, Sem.run_bind, Array.mapM_eq_mapM_toList, Sem.run_map, h3]
    rfl
  refine ⟨_, _, h1, ?_, hrun⟩
  have hl := SV.aQ h2
  cases l with
  | nil =>
    simp only [SV.bQ] at h2
    subst h2
    simp only [oneOf, SV.rel]
    exact ⟨[], by simp, qp⟩
  | cons x l =>
    cases l with
    | nil =>
      obtain ⟨v, rfl, hv⟩ := cm h2
      simpa [oneOf] using hv
    | cons y l =>
      have hne : ¬ vs.toArray.size = 1 := by simp at hl ⊢; omega
      rw [dif_neg hne]
      simp only [oneOf, SV.rel]
      exact ⟨vs, rfl, h2⟩
def atp (R : Ctx) (K Kp : SV → Hp → Prop) (en : Ending) (w' : World) : Prop :=
  (∃ x v R', en = .returned v ∧ R.Ext R' ∧ dj R' w' ∧ SV.rel R' x v ∧ K x R'.hp) ∨ (∃ x v R', en = .panicked [{ v, recovered := false }] ∧ R.Ext R' ∧ dj R' w' ∧ SV.rel R' x v ∧ Kp x R'.hp)
theorem acr (hte : lv P te) (hΦ : aV P Φ) (hany : aZ P te Φ) {f : FuncId} {fn : Func} {c : Code} (hf : P.funcs[f]? = some fn) (hb : fn.body = some c) {R : Ctx} {Λ : Lam} (hΛ : EY P R Λ c) {w : World} {n : Nat}
    {args : List SV} {vs : List Value} {K Kp : SV → Hp → Prop} (hm : dj R w) (ha : SV.bQ R args vs) (h : wpf te Φ Λ n fn args R.hp K Kp) : Calls P f vs.toArray w (atp R K Kp) := by
  unfold wpf at h
  rw [hb] at h
  simp only at h
  refine calls_of_wp hf hb (L0 (R₀ := R) (R := R) hte hΦ hany hΛ (Ctx.Ext.refl R) ⟨rfl, hm, ?_, rfl⟩ h ⟨?_, ?_, ?_, ?_⟩)
  · have hl := SV.aQ ha
    simp only [Array.toList_append, List.toList_toArray, Array.toList_replicate, List.size_toArray, hl]
    refine SV.cB ha (SV.xp (by simp) fun i h1 h2 => ?_)
    simp [SV.rel]
  · intro R' st a w' hx hst hk
    obtain ⟨x, v, h1, h2, h3⟩ := r5 hte hst hk
    refine ⟨hst.defers, v, h3, .inl ⟨x, v, R', rfl, hx, hst.mem, h2, ?_⟩⟩
    rw [hst.hp]; exact h1
  · intro R' st a w' hx hst hk
    obtain ⟨x, v, h1, h2, h3⟩ := r5 hte hst hk
    refine ⟨hst.defers, v, h3, .inl ⟨x, v, R', rfl, hx, hst.mem, h2, ?_⟩⟩
    rw [hst.hp]; exact h1
  · intro R' st a w' id hx hst hk
    exact hk.elim
  · intro R' st a w' sv v hx hst hv hk
    refine ⟨hst.defers, .inr ⟨sv, v, R', rfl, hx, hst.mem, hv, ?_⟩⟩
    rw [hst.hp]; exact hk
end
end Sx
end Go.Proofs.YtohjofabochgfaaGreat

namespace Go.Proofs.YtohjofabochgfaaGreat
namespace Sx
open Go
def ATy : List (Bool × Ty) → Type
  | [] => Unit
  | (_, t) :: r => t.T × ATy r
def afJ (hp : Hp) : (t : Ty) → List SV → Option t.T
  | .bool, cs => afL cs
  | .u64, cs => aso cs
  | .u8, cs => pU8 cs
  | .int, cs => asr cs
  | .str, cs => asp cs
  | .elem, cs => afK cs
  | .prod a b, cs => oX (afJ hp a (cs.take a.size)) (afJ hp b (cs.drop a.size))
  | .arr n t, cs => if cs.length = n * t.size then (List.range n).mapM fun i => afJ hp t ((cs.drop (i * t.size)).take t.size) else none
  | .list t, cs => if 0 < t.size then anl (sd t hp) cs else none
def asR (hp : Hp) (b : Bool) (t : Ty) (x : SV) : Option t.T :=
  match b, x with
  | true, .agg l => afJ hp t l
  | true, _ => none
  | false, x => afJ hp t [x]
def agI (hp : Hp) : (as : List (Bool × Ty)) → List SV → Option (ATy as)
  | [], [] => some ()
  | (b, t) :: r, x :: l => oX (asR hp b t x) (agI hp r l)
  | _, _ => none
def inj (b : Bool) (t : Ty) (x : t.T) : SV := n5 b (unpack t x)
def anu : (as : List (Bool × Ty)) → ATy as → List SV
  | [], _ => []
  | (b, t) :: r, x => inj b t x.1 :: anu r x.2
def Ctx.all (R : Ctx) (w : World) : Ctx := ⟨fun b => w.heap[b]?, ⟨fun _ => none, R.U.env⟩, fun _ => none, fun _ => none⟩
section
variable {P : Program} {R : Ctx} {w : World}
def Ty.plain : Ty → Bool
  | .list _ => false
  | .prod a b => a.plain && b.plain
  | .arr _ t => t.plain
  | _ => true
def SV.flat : SV → Bool
  | .bool _ | .u64 _ | .u8 _ | .int _ | .str _ => true
  | _ => false
theorem Ym {R R' : Ctx} : ∀ {x : SV} {v : Value}, x.flat = true → SV.rel R x v → SV.rel R' x v := by
  intro x v hf h
  cases x <;> first | (cases hf; done) | (simpa only [SV.rel] using h)
theorem OW {R R' : Ctx} : ∀ {l : List SV} {vs : List Value}, l.all SV.flat = true → SV.bQ R l vs → SV.bQ R' l vs
  | [], vs, _, h => by simpa only [SV.bQ] using h
  | x :: l, vs, hf, h => by
    simp only [List.all_cons, Bool.and_eq_true] at hf
    simp only [SV.bQ] at h ⊢
    obtain ⟨v, r, h1, h2, h3⟩ := h
    exact ⟨v, r, h1, Ym hf.1 h2, OW hf.2 h3⟩
theorem jC : ∀ (t : Ty) (_ : t.plain = true) (x : t.T), (unpack t x).all SV.flat = true
  | .bool, _, _ => rfl
  | .u64, _, _ => rfl
  | .u8, _, _ => rfl
  | .int, _, _ => rfl
  | .str, _, _ => rfl
  | .elem, _, _ => rfl
  | .prod a b, hp, x => by
    simp only [Ty.plain, Bool.and_eq_true] at hp
    simp only [unpack, List.all_append, jC a hp.1, jC b hp.2, Bool.and_self]
  | .arr n t, hp, x => by
    simp only [unpack, List.all_flatMap, List.all_eq_true]
    intro i _
    simpa [List.all_eq_true] using jC t hp _
structure Y7 where
  as : List (Bool × Ty)
  rs : List (Bool × Ty)
  pre : ATy as → Bool
  F : ATy as → ATy rs
def Y7.aH (S : Y7) : cG := ⟨false, fun _ args hp => match agI hp S.as args with
  | some x => .guard (S.pre x) (.ok (.ret ⟨oneOf (anu S.rs (S.F x)), []⟩))
  | none => .fail⟩
def Ctx.behind (R R₁ : Ctx) (w : World) : Ctx := { R with F := fun b => if b < w.heap.size then R.F b else R₁.F b }
end
end Sx
end Go.Proofs.YtohjofabochgfaaGreat

namespace Go.Proofs.YtohjofabochgfaaGreat
namespace Sx
open Go
def jq (d n : Nat) : Prop := n / 4096 = d + 1
structure ab4 (d : Nat) (hp hp' : Hp) : Prop where
  kk : ∀ c ch, hp c = some ch → hp' c = some ch
  free : ∀ n, jq d n → hp n = none → hp' n = none
theorem uE {c e n : Nat} {hp : Hp} (h : fu hp c e = some n) : ∃ b, eF hp c e = some b := by
  unfold fu at h
  cases hq : eF hp c e with
  | none => rw [hq] at h; cases h
  | some b => exact ⟨b, rfl⟩
theorem ln {c e n : Nat} {hp : Hp} (h : dX hp c e = some n) : ∃ b, eF hp c e = some b := by
  unfold dX at h
  cases hq : eF hp c e with
  | none => rw [hq] at h; cases h
  | some b => exact ⟨b, rfl⟩
section
variable {d : Nat} {hp hp' : Hp} (hg : ab4 d hp hp')
include hg
theorem cO {c e : Nat} {b : Chunk} (h : eF hp c e = some b) : eF hp' c e = some b := by
  have := hg.kk _ _ (cC h)
  simp [eF, this]
theorem pg : ∀ (n k : Nat), n + k ≤ 4000 → dQ hp' d n k = dQ hp d n k
  | 0, k, _ => rfl
  | n + 1, k, hk => by
    simp only [dQ]
    cases h : hp ((d + 1) * 4096 + k) with
    | none =>
      have : hp' ((d + 1) * 4096 + k) = none := hg.free _ (by unfold jq; omega) h
      rw [this]
    | some ch =>
      rw [hg.kk _ _ h]
      exact pg n (k + 1) (by omega)
theorem ij : fresh hp' d = fresh hp d := pg hg 4000 0 (by omega)
theorem Mw {c e n : Nat} (h : fu hp c e = some n) : fu hp' c e = some n := by
  unfold fu at h ⊢
  cases hq : eF hp c e with
  | none => rw [hq] at h; cases h
  | some b => rw [cO hg hq]; rw [hq] at h; exact h
theorem uD {c e n : Nat} (h : dX hp c e = some n) : dX hp' c e = some n := by
  unfold dX at h ⊢
  cases hq : eF hp c e with
  | none => rw [hq] at h; cases h
  | some b => rw [cO hg hq]; rw [hq] at h; exact h
theorem TW {t : Ty} {x : SV} {ys : List t.T} (h : TX t hp x = some ys) : TX t hp' x = some ys := by
  cases x <;> simp only [TX] at h ⊢ <;> try (first | exact h | (cases h; done))
  case own c e =>
    cases hc : hp c with
    | none => rw [hc] at h; cases h
    | some ch => rw [hg.kk _ _ hc]; rw [hc] at h; exact h
theorem PX {t : Ty} {x : SV} {ys : List t.T} (h : sd t hp x = some ys) : sd t hp' x = some ys := by
  cases x <;> simp only [sd] at h ⊢ <;> try (first | exact h | (cases h; done))
  case own c e =>
    cases hc : hp c with
    | none => rw [hc] at h; cases h
    | some ch => rw [hg.kk _ _ hc]; rw [hc] at h; exact h
  case part c e off len =>
    cases hc : hp c with
    | none => rw [hc] at h; cases h
    | some ch => rw [hg.kk _ _ hc]; rw [hc] at h; exact h
  case clip c e =>
    cases hc : hp c with
    | none => rw [hc] at h; cases h
    | some ch => rw [hg.kk _ _ hc]; rw [hc] at h; exact h
theorem jv : ∀ {t : Ty} {cs : List SV} {x : t.T}, pack hp t cs = some x → pack hp' t cs = some x
  | .bool, _, _, h => h
  | .u64, _, _, h => h
  | .u8, _, _, h => h
  | .int, _, _, h => h
  | .str, _, _, h => h
  | .elem, _, _, h => h
  | .prod a b, cs, x, h => by
    obtain ⟨h1, h2⟩ := bC h
    simp only [pack, jv h1, jv h2, oX]
  | .arr n t, cs, x, h => by
    simp only [pack] at h ⊢
    split at h
    · rename_i hl
      rw [if_pos hl]
      exact jw (fun _ _ => jv) h
    · cases h
  | .list t, cs, x, h => by
    obtain ⟨y, rfl, hy⟩ := lU h
    simp only [pack, anl]
    exact TW hg hy
theorem DP {n : Nat} {x : SV} {cs : List SV} (h : (loadCells hp n x).run = some cs) : (loadCells hp' n x).run = some cs := by
  unfold loadCells at h ⊢
  split at h
  · rename_i c e i off
    cases hq : eF hp c e with
    | none => rw [hq] at h; cases h
    | some b => rw [cO hg hq]; rw [hq] at h; exact h
  · exact h
  · exact h
  · cases h
theorem Gy {te : TE} {T : TypeId} {x z : SV} (h : (rD te hp T x).run = some z) : (rD te hp' T x).run = some z := by
  unfold rD at h ⊢
  split at h
  · split at h
    · cases h
    · split at h
      · cases h
      · rename_i hn
        rw [if_neg hn]
        split at h
        · split at h
          · rename_i hrs
            rw [if_pos (uD hg hrs)]
            split at h
            · rename_i m hm
              rw [Mw hg hm]
              exact h
            · cases h
          · cases h
        · split at h
          · rename_i hrs
            rw [if_pos (uD hg hrs)]
            exact h
          · cases h
        · exact h
        · cases h
  · cases h
theorem uA {t : Ty} {cs : List SV} : ∀ {m j i : Nat} {xs ys : List t.T}, oh t hp cs m j i xs = some ys → oh t hp' cs m j i xs = some ys
  | 0, _, _, _, _, h => h
  | m + 1, j, i, xs, ys, h => by
    simp only [oh] at h ⊢
    split at h
    · rename_i x hx
      rw [jv hg hx]
      exact uA h
    · cases h
theorem Be {cs : List SV} {x : SV} {u : List (Nat × Ch)} (h : (storeCells hp cs x).run = some u) : (storeCells hp' cs x).run = some u := by
  unfold storeCells at h ⊢
  split at h
  · rename_i c e i off
    cases hq : eF hp c e with
    | none => rw [hq] at h; cases h
    | some b =>
      rw [cO hg hq]
      rw [hq] at h
      cases b with
      | frz t xs => cases h
      | cells vs => exact h
      | row t xs =>
        simp only at h ⊢
        split at h
        · rename_i h1
          rw [if_pos h1]
          obtain ⟨h2, h3⟩ := OT.aE h
          rw [h2]
          split at h3
          · rename_i y hy
            rw [jv hg hy]
            exact h3
          · cases h3
        · rename_i h1
          rw [if_neg h1]
          split at h
          · rename_i h4
            rw [if_pos h4]
            obtain ⟨h2, h3⟩ := OT.aE h
            rw [h2]
            split at h3
            · rename_i ys hy
              rw [uA hg hy]
              exact h3
            · cases h3
          · cases h
  · cases h
theorem fP {c e : Nat} {b : Chunk} (h : eF hp c e = some b) : dX hp' c e = dX hp c e := by
  unfold dX
  rw [cO hg h, h]
theorem eQ {c e : Nat} {b : Chunk} (h : eF hp c e = some b) : fu hp' c e = fu hp c e := by
  unfold fu
  rw [cO hg h, h]
theorem DU {te : TE} {T : TypeId} {x z : SV} {k : Int} (h : (indexAddr te hp T x k).run = some z) : (indexAddr te hp' T x k).run = some z := by
  unfold indexAddr at h ⊢
  split at h
  · cases h
  · split at h
    · split at h
      · cases h
      · split at h
        · rename_i ei _ c ep i off
          cases hq : eF hp c ep with
          | none =>
            have : dX hp c ep = none := by unfold dX; rw [hq]
            rw [this, hq] at h
            simp at h
            cases h
          | some b =>
            rw [fP hg hq, cO hg hq]
            rw [hq] at h
            exact h
        · exact h
        · cases h
    · split at h
      · cases h
      · split at h
        · split at h
          · rename_i n hn
            obtain ⟨b, hb⟩ := uE hn
            rw [eQ hg hb, hn, fP hg hb]
            exact h
          · cases h
        · split at h
          · rename_i n hn
            obtain ⟨b, hb⟩ := uE hn
            rw [eQ hg hb, hn, fP hg hb]
            exact h
          · cases h
        · split at h
          · rename_i hs
            obtain ⟨b, hb⟩ := ln hs
            rw [fP hg hb, if_pos hs]
            exact h
          · cases h
        · exact h
        · cases h
    · cases h
end
end Sx
end Go.Proofs.YtohjofabochgfaaGreat

namespace Go.Proofs.YtohjofabochgfaaGreat
namespace Sx
open Go
theorem jI {hp : Hp} {c e : Nat} (h : eF hp c e = none) : fu hp c e = none := by unfold fu; rw [h]
section
variable {d : Nat} {hp hp' : Hp} (hg : ab4 d hp hp')
include hg
theorem uv {size c ep off len : Nat} {lo hi : Option SV} {z : SV} (h : (sC hp size c ep off len lo hi).run = some z) : (sC hp' size c ep off len lo hi).run = some z := by
  unfold sC at h ⊢
  split at h
  · rename_i hs
    obtain ⟨b, hb⟩ := ln hs
    rw [fP hg hb, if_pos hs]
    exact h
  · cases h
theorem Jf {te : TE} {T : TypeId} {x z : SV} {lo hi mx : Option SV} (h : (xl te hp T x lo hi mx).run = some z) : (xl te hp' T x lo hi mx).run = some z := by
  unfold xl at h ⊢
  split at h
  · cases h
  · split at h
    · split at h
      · rename_i ei c ep i off _
        split at h
        · rename_i hc
          obtain ⟨b, hb⟩ := ln hc.2.2
          rw [fP hg hb, if_pos hc, eQ hg hb]
          exact h
        · cases h
      · cases h
    · split at h
      · cases h
      · rename_i ei _
        split at h
        · rename_i hn
          rw [if_pos hn]
          cases x <;> first | exact h | (cases h; done) | skip
          case own c ep | clip c ep | part c ep _ _ =>
            cases hq : eF hp c ep with
            | none => simp only [jI hq] at h; cases h
            | some b => simp only [eQ hg hq]; exact h
        · rename_i hn
          rw [if_neg hn]
          cases mx with
          | some m => cases x <;> first | exact h | (cases h; done)
          | none =>
            cases x <;> first | exact h | (cases h; done) | skip
            case own c ep =>
              cases hq : eF hp c ep with
              | none => simp only [jI hq] at h; cases h
              | some b =>
                simp only [eQ hg hq]
                simp only at h
                split at h
                · exact uv hg h
                · cases h
            case part c ep off len => exact uv hg h
    · exact h
    · cases h
theorem SK {te : TE} {T : TypeId} {x z : SV} (h : (aaP te hp T x).run = some z) : (aaP te hp' T x).run = some z := by
  unfold aaP at h ⊢
  split at h
  · cases h
  · rename_i ti hT
    cases hd : ti.desc <;> rw [hd] at h <;> cases x <;> first | exact h | (cases h; done) | skip
    case slice.own _ c ep =>
      simp only at h ⊢
      cases hq : eF hp c ep with
      | none => simp only [jI hq] at h; cases h
      | some b => simp only [eQ hg hq]; exact h
    case slice.clip _ c ep =>
      simp only at h ⊢
      cases hq : eF hp c ep with
      | none => simp only [jI hq] at h; cases h
      | some b => simp only [eQ hg hq]; exact h
    case slice.part _ c ep off len =>
      simp only at h ⊢
      cases hq : eF hp c ep with
      | none => simp only [jI hq] at h; cases h
      | some b => simp only [eQ hg hq]; exact h
omit hg in
theorem pf : ∀ (n k : Nat), n + k ≤ 4000 → jq d (dQ hp d n k)
  | 0, k, h => by unfold jq; simp only [dQ]; omega
  | n + 1, k, h => by
    simp only [dQ]
    split
    · unfold jq; omega
    · exact pf n (k + 1) (by omega)
omit hg in
theorem D1 (d : Nat) (hp : Hp) : jq d (fresh hp d) := pf 4000 0 (by omega)
theorem dB (h : ¬ (hp (fresh hp d)).isSome = true) : ¬ (hp' (fresh hp d)).isSome = true := by
  rw [hg.free _ (D1 d hp) (mg h)]
  simp
theorem HV {t : Ty} {x : SV} {ys : List t.T} : (match x with
        | .str b => bU t .u8 b
        | _ => sd t hp x) = some ys → (match x with
        | .str b => bU t .u8 b
        | _ => sd t hp' x) = some ys := fun h => by
  cases x <;> first | exact h | exact PX hg h
theorem GA {te : TE} {T : TypeId} {s x : SV} {e : Eff} (h : (rE te hp d T s x).run = some e) : (rE te hp' d T s x).run = some e := by
  unfold rE at h ⊢
  split at h
  · split at h
    · rename_i size bytes _ _ t hte
      split at h
      · cases h
      · rename_i hb
        rw [if_neg hb]
        split at h
        · rename_i ys hys
          have key := HV hg hys
          split
          case h_2 hno => exact absurd (hno.symm.trans key) (by simp)
          rename_i ys' hys'
          have : ys' = ys := Option.some.inj (hys'.symm.trans key)
          subst this
          cases s <;> first | (cases h; done) | skip
          case own c ep =>
            simp only at h ⊢
            cases hq : eF hp c ep with
            | none => rw [hq] at h; cases h
            | some b => rw [cO hg hq]; rw [hq] at h; exact h
          case emp =>
            simp only at h ⊢
            split at h
            · cases h
            · rename_i hf
              rw [ij hg, if_neg (dB hg hf)]
              exact h
          case clip c ep =>
            simp only at h ⊢
            cases hq : eF hp c ep with
            | none => rw [hq] at h; cases h
            | some b =>
              rw [cO hg hq]; rw [hq] at h
              cases b <;> first | (cases h; done) | skip
              case row t' xs =>
                simp only at h ⊢
                split at h
                · split at h
                  · cases h
                  · rename_i hf
                    rw [ij hg, if_neg (dB hg hf)]
                    exact h
                · cases h
        · cases h
    · cases h
  · cases h
theorem Pj {te : TE} {T : TypeId} {x y : SV} {e : Eff} (h : (Im te hp T x y).run = some e) : (Im te hp' T x y).run = some e := by
  unfold Im at h ⊢
  split at h
  · split at h
    · split at h
      · cases h
      · rename_i hb
        rw [if_neg hb]
        split at h
        · rename_i ys hys
          have key := HV hg hys
          split
          case h_2 hno => exact absurd (hno.symm.trans key) (by simp)
          rename_i ys' hys'
          have : ys' = ys := Option.some.inj (hys'.symm.trans key)
          subst this
          cases x <;> first | (cases h; done) | skip
          case own c ep =>
            simp only at h ⊢
            cases hq : eF hp c ep with
            | none => rw [hq] at h; cases h
            | some b => rw [cO hg hq]; rw [hq] at h; exact h
          case part c ep off len =>
            simp only at h ⊢
            cases hq : eF hp c ep with
            | none => rw [hq] at h; cases h
            | some b => rw [cO hg hq]; rw [hq] at h; exact h
        · cases h
    · cases h
  · cases h
theorem Af {te : TE} {T : TypeId} {cs : List SV} {e : Eff} (h : (newVar te hp d T cs).run = some e) : (newVar te hp' d T cs).run = some e := by
  unfold newVar at h ⊢
  split at h
  · cases h
  · split at h
    · cases h
    · rename_i hl
      rw [if_neg hl]
      simp only at h ⊢
      split at h
      · cases h
      · rename_i hf
        rw [ij hg, if_neg (dB hg hf)]
        exact h
theorem Bp {te : TE} {T : TypeId} {len : Nat} {ps : List (Nat × SV)} {e : Eff} (h : (buildSlice te hp d T len ps).run = some e) : (buildSlice te hp' d T len ps).run = some e := by
  unfold buildSlice at h ⊢
  split at h
  · split at h
    · simp only at h ⊢
      split at h
      · cases h
      · rename_i hf
        rw [ij hg]
        rw [if_neg (by rintro (h1 | h1); exact dB hg (fun h2 => hf (.inl h2)) h1; exact hf (.inr h1))]
        split at h
        · split at h
          · rename_i xs hxs
            rw [jw (fun _ _ => jv hg) hxs]
            exact h
          · cases h
        · cases h
    · cases h
  · cases h
theorem DK {te : TE} {T : TypeId} {l c : Int} {e : Eff} (h : (makeSlice te hp d T l c).run = some e) : (makeSlice te hp' d T l c).run = some e := by
  unfold makeSlice at h ⊢
  split at h
  · split at h
    · simp only at h ⊢
      split at h
      · cases h
      · rename_i hf
        rw [ij hg]
        rw [if_neg (by rintro (h1 | h1); exact dB hg (fun h2 => hf (.inl h2)) h1; exact hf (.inr h1))]
        exact h
    · cases h
  · cases h
end
end Sx
end Go.Proofs.YtohjofabochgfaaGreat

namespace Go.Proofs.YtohjofabochgfaaGreat
namespace Sx
open Go
def aK (s : cG) : Prop := ∀ (d : Nat) (args : List SV) (hp hp' : Hp) (out : Out), ab4 d hp hp' → (s.f d args hp).run = some out → (s.f d args hp').run = some out
def ax (Φ : Env) : Prop := ∀ f s, Φ f = some s → aK s
theorem dO {α β : Type} {f : α → β} {x y : OT α} {z : β} (hxy : ∀ a, x.run = some a → y.run = some a) (h : (x.map f).run = some z) : (y.map f).run = some z := by
  obtain ⟨a, h1, rfl⟩ := OT.run_map h
  have := hxy a h1
  clear h h1 hxy
  induction y with
  | ok b => cases this; rfl
  | br b u v hu hv =>
    cases b
    · exact hv this
    · exact hu this
  | fail => cases this
theorem Bn {te : TE} {d : Nat} {hp hp' : Hp} (hg : ab4 d hp hp') {src dst : TypeId} {x : SV} {y : Nat × Nat × List UInt8} (h : fk te hp src dst x = some y) : fk te hp' src dst x = some y := by
  unfold fk at h ⊢
  split at h
  · rename_i hs
    rw [if_pos hs]
    split at h
    · split at h
      · split at h
        · split at h
          · rename_i h3
            rw [cO hg h3]
            exact h
          · cases h
        · cases h
      · cases h
    · cases h
  · cases h
theorem abE {te : TE} {Φ : Env} (hΦ : ax Φ) {d : Nat} {hp hp' : Hp} (hg : ab4 d hp hp') {ρ : Operand → SV} {op : Op} {out : Out} (h : (Il te Φ hp d ρ op).run = some out) :
    (Il te Φ hp' d ρ op).run = some out := by
  cases op <;> simp only [Il] at h ⊢ <;> try (first | exact h | (cases h; done))
  case alloc T =>
    split at h
    · exact dO (fun _ => Af hg) h
    · cases h
  case box T x =>
    split at h
    · exact dO (fun _ => Af hg) h
    · cases h
  case buildSlice T len ps => exact dO (fun _ => Bp hg) h
  case load T a =>
    split at h
    · exact dO (fun _ hq => dO (fun _ => DP hg) hq) h
    · cases h
  case store T a x =>
    split at h
    · split at h
      · split at h
        · rename_i hl
          rw [if_pos hl]
          exact dO (fun _ => Be hg) h
        · cases h
      · cases h
    · cases h
  case slice T x lo hi mx => exact dO (fun _ => Jf hg) h
  case sliceToArrayPointer T x => exact dO (fun _ => Gy hg) h
  case indexAddr T x k =>
    split at h
    · exact dO (fun _ => DU hg) h
    · cases h
  case convert src dst x =>
    split at h
    · exact h
    · split at h
      · rename_i hs
        rw [Bn hg hs]
        exact h
      · rename_i hs
        split
        · rename_i c e s hs'
          obtain ⟨_, _, hx, _, _⟩ := pL hs'
          rw [hx] at h
          unfold BQ at h
          split at h <;> first | (cases h; done) | (split at h <;> first | (cases h; done) | skip)
          all_goals (rename_i he; simp_all)
        · exact h
  case makeSlice T l c =>
    split at h
    · exact dO (fun _ => DK hg) h
    · cases h
  case call c =>
    cases hc : c.callee <;> simp only [hc] at h ⊢ <;> try (cases h; done)
    case value f =>
      unfold ahQ at h ⊢
      split at h
      · split at h
        · rename_i s hs
          exact hΦ _ _ hs _ _ _ _ _ hg h
        · cases h
      · cases h
    case invoke recv name =>
      unfold Lf at h ⊢
      split at h
      · split at h
        · split at h
          · rename_i s hs
            exact hΦ _ _ hs _ _ _ _ _ hg h
          · cases h
        · cases h
      · cases h
    case builtin b =>
      cases b <;> simp only at h ⊢ <;> try (cases h; done)
      case len =>
        split at h
        · exact dO (fun _ => SK hg) h
        · cases h
      case append =>
        split at h
        · split at h
          · rename_i hl
            rw [if_pos hl]
            exact dO (fun _ => GA hg) h
          · cases h
        · cases h
      case copy =>
        split at h
        · exact dO (fun _ => Pj hg) h
        · cases h
      case max => exact h
def Lz (d : Nat) (hp hp' : Hp) : Prop := ∀ n, jq d n → (hp n = none ↔ hp' n = none)
theorem Am {d : Nat} {hp hp' : Hp} (hf : Lz d hp hp') : ∀ (n k : Nat), n + k ≤ 4000 → dQ hp' d n k = dQ hp d n k
  | 0, k, _ => rfl
  | n + 1, k, hk => by
    simp only [dQ]
    have hb : jq d ((d + 1) * 4096 + k) := by unfold jq; omega
    cases h : hp ((d + 1) * 4096 + k) with
    | none => rw [(hf _ hb).1 h]
    | some ch =>
      cases h' : hp' ((d + 1) * 4096 + k) with
      | none => rw [(hf _ hb).2 h'] at h; cases h
      | some ch' => exact Am hf n (k + 1) (by omega)
theorem Yb {d : Nat} {hp hp' : Hp} (hf : Lz d hp hp') : fresh hp' d = fresh hp d := Am hf 4000 0 (by omega)
theorem Ot {d : Nat} {hp hp' : Hp} (hf : Lz d hp hp') : (hp' (fresh hp d)).isSome = (hp (fresh hp d)).isSome := by
  have := hf _ (D1 d hp)
  cases h : hp (fresh hp d) with
  | none => rw [this.1 h]
  | some ch =>
    cases h' : hp' (fresh hp d) with
    | none => rw [this.2 h'] at h; cases h
    | some ch' => rfl
theorem ahx {te : TE} {Φ : Env} {d : Nat} {hp hp' : Hp} (hf : Lz d hp hp') {ρ : Operand → SV} {op : Op} (hk : dU Φ op = 0) :
    Il te Φ hp' d ρ op = Il te Φ hp d ρ op := by
  cases op <;> simp only [Il] <;> (first | (exfalso; simp [dU] at hk; done) | skip)
  case convert src dst x =>
    have hne : ¬ Nat.beq src dst = true := fun e => by simp [dU, e] at hk
    have : ∀ hp, fk te hp src dst (ρ x) = none := fun hp => by unfold fk; rw [if_neg hne]
    rw [this, this]
  case alloc T =>
    split
    · congr 1
      unfold newVar
      rw [Yb hf]
      simp only [Ot hf]
    · rfl
  case makeSlice T l c =>
    split
    · congr 1
      unfold makeSlice
      rw [Yb hf]
      simp only [Ot hf]
    · rfl
  case call c =>
    cases hc : c.callee <;> (try simp only)
    case value f =>
      exfalso
      simp only [dU, hc] at hk
      cases f <;> simp only at hk <;> first | (cases hk; done) | skip
      split at hk
      · split at hk <;> cases hk
      · cases hk
    case invoke recv name =>
      exfalso
      simp only [dU, hc] at hk
      cases hk
    case builtin b =>
      cases b <;> (try simp only) <;> (simp only [dU, hc] at hk; try (cases hk; done))
theorem abF {te : TE} {Φ : Env} {d : Nat} {hp : Hp} {ρ ρ' : Operand → SV} {op : Op} (h : ∀ x ∈ op.operands, ρ x = ρ' x) : Il te Φ hp d ρ op = Il te Φ hp d ρ' op := by
  have pairs : ∀ ps : Array (Nat × Operand), (∀ x ∈ (ps.toList.map (·.2)).toArray, ρ x = ρ' x) → (ps.toList.map fun p => (p.1, ρ p.2)) = (ps.toList.map fun p => (p.1, ρ' p.2)) := fun ps hp =>
    List.map_congr_left fun p hm => by
      rw [hp p.2 (by simpa using ⟨p.1, by simpa using hm⟩)]
  cases op <;> simp only [Op.operands] at h <;> simp only [Il]
  case build t ps => rw [pairs ps h]
  case buildSlice t n ps => rw [pairs ps h]
  case makeFunc f first caps =>
    rw [List.map_congr_left (l := first.toList) fun x hx => h x (by simp at hx; simp [hx]), List.map_congr_left (l := caps.toList) fun x hx => h x (by simp at hx; simp [hx])]
  case call c =>
    have hargs : c.args.toList.map ρ = c.args.toList.map ρ' := List.map_congr_left fun x hx => h x (by simp at hx; simp [Call.operands, hx])
    have harr : ∀ x ∈ c.args.toList, ρ x = ρ' x := fun x hx => h x (by simp at hx; simp [Call.operands, hx])
    cases hc : c.callee <;> (try simp only)
    case value f =>
      have hf : ρ f = ρ' f := h f (by simp [Call.operands, hc])
      rw [hargs, hf]
    case invoke recv name =>
      have hf : ρ recv = ρ' recv := h recv (by simp [Call.operands, hc])
      rw [hargs, hf]
    case builtin b =>
      cases b <;> (try simp only)
      all_goals (
        rcases ha : c.args.toList with _ | ⟨x, _ | ⟨y, _ | ⟨z, r⟩⟩⟩ <;> rcases hT : c.argTypes.toList with _ | ⟨T, _ | ⟨T', _ | ⟨T'', r'⟩⟩⟩ <;>
          first
          | rfl
          | (have hx := harr x (by rw [ha]; simp); simp only [hx]; done)
          | (have hx := harr x (by rw [ha]; simp); have hy := harr y (by rw [ha]; simp); simp only [hx, hy]; done))
  case slice t x lo hi mx => cases lo <;> cases hi <;> cases mx <;> simp_all
  all_goals (first | rfl | (simp_all; done))
end Sx
end Go.Proofs.YtohjofabochgfaaGreat

namespace Go.Proofs.YtohjofabochgfaaGreat
namespace Sx
open Go
def bn (u : List (Nat × Ch)) : List Nat := u.map (·.1)
theorem sS {m : Nat} : ∀ (u : List (Nat × Ch)) {hp hp' : Hp}, hp m = hp' m → fM hp u m = fM hp' u m
  | [], _, _, h => h
  | (c, ch) :: r, hp, hp', h => sS r (by show (if m = c then some ch else hp m) = (if m = c then some ch else hp' m); rw [h])
theorem dt {m : Nat} : ∀ (u : List (Nat × Ch)) {hp : Hp}, m ∉ bn u → fM hp u m = hp m
  | [], _, _ => rfl
  | (c, ch) :: r, hp, h => by
    have h1 : m ≠ c := fun e => h (by simp [bn, e])
    have h2 : m ∉ bn r := fun e => h (by simp only [bn, List.map_cons, List.mem_cons]; exact .inr e)
    simp only [fM]
    rw [dt r h2]
    simp [h1]
theorem Xl {m : Nat} : ∀ (u : List (Nat × Ch)) {hp hp' : Hp}, m ∈ bn u → fM hp u m = fM hp' u m
  | [], _, _, h => by simp [bn] at h
  | (c, ch) :: r, hp, hp', h => by
    by_cases h2 : m ∈ bn r
    · exact Xl r h2
    · have h1 : m = c := by
        simp only [bn, List.map_cons, List.mem_cons] at h
        exact h.resolve_right h2
      simp only [fM]
      rw [dt r h2, dt r h2]
      simp [h1]
theorem Hm {m : Nat} : ∀ (u : List (Nat × Ch)) {hp : Hp}, hp m ≠ none → fM hp u m ≠ none
  | [], _, h => h
  | (c, ch) :: r, hp, h => Hm r (by
    show (if m = c then some ch else hp m) ≠ none
    split
    · simp
    · exact h)
theorem als {s : St} {d d' : Option Tmp} {e e' : Eff} (hd : ∀ t, d = some t → d' ≠ some t) (hn : ∀ m, m ∈ bn e.upd → m ∉ bn e'.upd) : (s.put d e).put d' e' = (s.put d' e').put d e := by
  unfold St.put
  congr 1
  · cases d with
    | none => rfl
    | some t =>
      cases d' with
      | none => rfl
      | some t' =>
        simp only [Bh]
        exact List.set_comm _ _ (fun h => hd t rfl (by rw [h]))
  · funext m
    simp only
    by_cases h' : m ∈ bn e'.upd
    · have h : m ∉ bn e.upd := fun h => hn m h h'
      rw [Xl e'.upd (hp' := s.hp) h', dt e.upd h]
    · rw [dt e'.upd h']
      exact sS _ (dt e'.upd h').symm
theorem rm (st : St) (D : Nat → Bool) : ∀ (F : kF), (bm st D F).tm.length = st.tm.length
  | [] => rfl
  | x :: r => by
    simp only [bm]
    cases D x.1
    · exact rm st D r
    · simp only [cond_true, St.put]
      unfold Bh
      split <;> simp [rm st D r]
theorem k9 {st : St} {D D' : Nat → Bool} : ∀ {F : kF}, (∀ x ∈ F, D x.1 = D' x.1) → bm st D F = bm st D' F
  | [], _ => rfl
  | x :: r, h => by
    simp only [bm]
    rw [h x (by simp), k9 (F := r) fun y hy => h y (by simp [hy])]
theorem Ea {st : St} {D D' : Nat → Bool} {m : Nat} : ∀ {F : kF}, (∀ x ∈ F, D' x.1 = true → D x.1 = true) → (∀ x ∈ F, D x.1 = true → D' x.1 = false → m ∉ bn x.2.2.upd) →
    (bm st D F).hp m = (bm st D' F).hp m
  | [], _, _ => rfl
  | x :: r, h1, h2 => by
    have ih := Ea (st := st) (D := D) (D' := D') (m := m) (F := r) (fun y hy => h1 y (by simp [hy])) (fun y hy => h2 y (by simp [hy]))
    simp only [bm]
    cases hd' : D' x.1
    · cases hd : D x.1
      · exact ih
      · simp only [cond_true, cond_false, St.put]
        rw [dt _ (h2 x (by simp) hd hd')]
        exact ih
    · rw [h1 x (by simp) hd']
      simp only [cond_true, St.put]
      exact sS _ ih
theorem C0 {st : St} {dst : Option Tmp} {v : SV} {t : Nat} (h : dst ≠ some t) : (Bh st dst v).getD t .bH = st.tm.getD t .bH := by
  cases dst with
  | none => rfl
  | some d =>
    have : d ≠ t := fun e => h (by rw [e])
    simp [Bh, List.getD_eq_getElem?_getD, List.getElem?_set_ne this]
theorem Z8 {st st' : St} {dst : Option Tmp} {v : SV} {t : Nat} (hl : st.tm.length = st'.tm.length) (h : st.tm.getD t .bH = st'.tm.getD t .bH) : (Bh st dst v).getD t .bH = (Bh st' dst v).getD t .bH := by
  cases dst with
  | none => exact h
  | some d =>
    by_cases e : d = t
    · subst e
      simp only [Bh, List.getD_eq_getElem?_getD, List.getElem?_set, if_true, hl]
    · rw [C0 (by simpa using e), C0 (by simpa using e)]
      exact h
theorem OR {st : St} {D D' : Nat → Bool} {t : Nat} : ∀ {F : kF}, (∀ x ∈ F, D' x.1 = true → D x.1 = true) → (∀ x ∈ F, D x.1 = true → D' x.1 = false → x.2.1.dst ≠ some t) →
    (bm st D F).tm.getD t .bH = (bm st D' F).tm.getD t .bH
  | [], _, _ => rfl
  | x :: r, h1, h2 => by
    have ih := OR (st := st) (D := D) (D' := D') (t := t) (F := r) (fun y hy => h1 y (by simp [hy])) (fun y hy => h2 y (by simp [hy]))
    simp only [bm]
    cases hd' : D' x.1
    · cases hd : D x.1
      · exact ih
      · simp only [cond_true, cond_false, St.put]
        rw [C0 (h2 x (by simp) hd hd')]
        exact ih
    · rw [h1 x (by simp) hd']
      simp only [cond_true, St.put]
      exact Z8 (by rw [rm, rm]) ih
theorem vC {st : St} {D : Nat → Bool} {i : Nat} {o : Oper} {e : Eff} : ∀ {F : kF}, (i, o, e) ∈ F → (∀ x ∈ F, x.1 = i → x = (i, o, e)) → F.Pairwise (fun x y => y.1 < x.1) → D i = false →
    (∀ x ∈ F, D x.1 = true → i < x.1 → (∀ t, o.dst = some t → x.2.1.dst ≠ some t) ∧ ∀ m, m ∈ bn e.upd → m ∉ bn x.2.2.upd) →
    bm st (fun k => D k || Nat.beq k i) F = (bm st D F).put o.dst e
  | [], hm, _, _, _, _ => by cases hm
  | x :: r, hm, hu, hp, hD, hc => by
    have hp' := List.pairwise_cons.1 hp
    simp only [bm]
    by_cases hx : x.1 = i
    · have := hu x (by simp) hx
      subst this
      simp only [hD, Bool.false_or, Nat.beq_refl, cond_true, cond_false]
      congr 1
      exact k9 fun y hy => by
        have : y.1 ≠ i := Nat.ne_of_lt (hp'.1 y hy)
        simp [this]
    · have hmr : (i, o, e) ∈ r := by
        rcases List.mem_cons.1 hm with h | h
        · exact absurd (by rw [← h]) hx
        · exact h
      have hlt : i < x.1 := hp'.1 _ hmr
      have ih := vC (st := st) (F := r) hmr (fun y hy => hu y (by simp [hy])) hp'.2 hD (fun y hy => hc y (by simp [hy]))
      have hb : Nat.beq x.1 i = false := by
        cases hq : Nat.beq x.1 i
        · rfl
        · exact absurd (Nat.eq_of_beq_eq_true hq) hx
      simp only [hb, Bool.or_false]
      cases hd : D x.1
      · exact ih
      · simp only [cond_true]
        obtain ⟨c1, c2⟩ := hc x (by simp) hd hlt
        rw [ih, als c1 c2]
end Sx
end Go.Proofs.YtohjofabochgfaaGreat

namespace Go.Proofs.YtohjofabochgfaaGreat
namespace Sx
open Go
section
variable {te : TE} {Φ : Env} {ops : Array Oper} {bs : Array Nat} {H : Hid} {st : St}
structure anQ (te : TE) (Φ : Env) (ops : Array Oper) (bs : Array Nat) (H : Hid) (st : St) (r : kF) (i : Nat) (o : Oper) (e : Eff) : Prop where
  run : ∃ b, guarded ops.toList (bm st (cM bs i) r).tm o = some b ∧
    (b = true → (Il te Φ (anv (hid H i) (bm st (cM bs i) r).hp) (dZ i o) (bm st (cM bs i) r).eval o.op).run = some (.ret e) ∧ OC H i o e.upd = true) ∧ (b = false → e = ⟨.undef, []⟩)
  upd : QE Φ bs ops.toList st i o r e.upd = true
def Good (te : TE) (Φ : Env) (ops : Array Oper) (bs : Array Nat) (H : Hid) (st : St) : kF → Prop
  | [] => True
  | x :: r => x.1 = r.length ∧ ops[r.length]? = some x.2.1 ∧ anQ te Φ ops bs H st r x.1 x.2.1 x.2.2 ∧ Good te Φ ops bs H st r
theorem B4 {K : SE → St → Prop} : ∀ (l : List Oper) (done : kF), Good te Φ ops bs H st done → (∀ k, l[k]? = ops[done.length + k]?) → e8 te Φ ops.toList bs H K st done.length l done →
    ∃ F, Good te Φ ops bs H st F ∧ F.length = done.length + l.length ∧ K .normal (bm st (fun _ => true) F)
  | [], done, hg, _, h => ⟨done, hg, rfl, h⟩
  | o :: r, done, hg, hl, h => by
    have ho : ops[done.length]? = some o := by have := hl 0; simpa using this.symm
    have hl' : ∀ k, r[k]? = ops[done.length + 1 + k]? := fun k => by
      have := hl (k + 1)
      rw [List.getElem?_cons_succ] at this
      rw [this]
      congr 1
      omega
    simp only [e8] at h
    split at h
    · exact h.elim
    · rename_i b hb
      cases b
      · simp only [cond_false] at h
        obtain ⟨F, h1, h2, h3⟩ := B4 r ((done.length, o, ⟨.undef, []⟩) :: done) ⟨rfl, ho, ⟨⟨_, hb, (fun h => by cases h), fun _ => rfl⟩, rfl⟩, hg⟩ hl' h
        exact ⟨F, h1, by rw [h2]; simp only [List.length_cons]; omega, h3⟩
      · simp only [cond_true] at h
        obtain ⟨out, h1, h2⟩ := OT.Ux h
        cases out with
        | pan v u => exact h2.elim
        | ret e =>
          simp only at h2
          cases hu : QE Φ bs ops.toList st done.length o done e.upd
          · rw [hu] at h2; exact h2.elim
          · cases hv : OC H done.length o e.upd
            · rw [hu, hv] at h2; exact h2.elim
            rw [hu, hv] at h2
            obtain ⟨F, h4, h5, h6⟩ := B4 r ((done.length, o, e) :: done) ⟨rfl, ho, ⟨⟨_, hb, (fun _ => ⟨h1, hv⟩), fun h => by cases h⟩, hu⟩, hg⟩ hl' h2
            exact ⟨F, h4, by rw [h5]; simp only [List.length_cons]; omega, h6⟩
theorem Good.mem : ∀ {F : kF}, Good te Φ ops bs H st F → ∀ x ∈ F, x.1 < F.length ∧ ops[x.1]? = some x.2.1
  | [], _, x, hx => by cases hx
  | y :: r, hg, x, hx => by
    rcases List.mem_cons.1 hx with h | h
    · subst h
      exact ⟨by rw [hg.1]; simp, by rw [hg.1]; exact hg.2.1⟩
    · obtain ⟨h1, h2⟩ := Good.mem hg.2.2.2 x h
      exact ⟨by simp only [List.length_cons]; omega, h2⟩
theorem Good.pairwise : ∀ {F : kF}, Good te Φ ops bs H st F → F.Pairwise (fun x y => y.1 < x.1)
  | [], _ => List.Pairwise.nil
  | y :: r, hg => List.pairwise_cons.2 ⟨fun x hx => by rw [hg.1]; exact (Good.mem hg.2.2.2 x hx).1, Good.pairwise hg.2.2.2⟩
theorem Good.auk : ∀ {F : kF}, Good te Φ ops bs H st F → ∀ x ∈ F, ∀ y ∈ F, x.1 = y.1 → x = y
  | [], _, x, hx, _, _, _ => by cases hx
  | z :: r, hg, x, hx, y, hy, he => by
    rcases List.mem_cons.1 hx with h | h <;> rcases List.mem_cons.1 hy with h' | h'
    · rw [h, h']
    · have := (Good.mem hg.2.2.2 y h').1
      rw [h, hg.1] at he
      omega
    · have := (Good.mem hg.2.2.2 x h).1
      rw [h', hg.1] at he
      omega
    · exact Good.auk hg.2.2.2 x h y h' he
theorem Good.at : ∀ {F : kF}, Good te Φ ops bs H st F → ∀ i, i < F.length → ∃ o e r, (i, o, e) ∈ F ∧ (∀ y ∈ r, y ∈ F) ∧ r.length = i ∧ (∀ D : Nat → Bool, (∀ k, i ≤ k → D k = false) → bm st D F = bm st D r) ∧ Good te Φ ops bs H st r ∧ anQ te Φ ops bs H st r i o e
  | [], _, i, h => by simp at h
  | y :: r, hg, i, h => by
    by_cases hi : i = r.length
    · subst hi
      have h1 : y.1 = r.length := hg.1
      refine ⟨y.2.1, y.2.2, r, ?_, fun z hz => by simp [hz], rfl, fun D hD => ?_, hg.2.2.2, ?_⟩
      · rw [← h1]; simp
      · simp only [bm]
        rw [hD y.1 (by rw [h1]; omega)]
        rfl
      · have := hg.2.2.1
        rw [h1] at this
        exact this
    · have hlt : i < r.length := by simp only [List.length_cons] at h; omega
      obtain ⟨o, e, r', h1, h2, h3, h4, h5, h6⟩ := Good.at hg.2.2.2 i hlt
      refine ⟨o, e, r', by simp [h1], fun z hz => by simp [h2 z hz], h3, fun D hD => ?_, h5, h6⟩
      simp only [bm]
      rw [hD y.1 (by rw [hg.1]; omega)]
      exact h4 D hD
theorem XZ {d n : Nat} (h : Oz d n = true) : jq d n := Nat.eq_of_beq_eq_true h
theorem Good.names : ∀ {F : kF}, Good te Φ ops bs H st F → ∀ x ∈ F, ∀ m ∈ bn x.2.2.upd, (jq (dZ x.1 x.2.1) m ∧ st.hp m = none) ∨
    (dU Φ x.2.1.op = 2 ∧ (st.hp m ≠ none ∨ ∃ y ∈ F, cM bs x.1 y.1 = true ∧ jq (dZ y.1 y.2.1) m ∧ y.2.2.upd ≠ []))
  | [], _, x, hx, _, _ => by cases hx
  | z :: r, hg, x, hx, m, hm => by
    rcases List.mem_cons.1 hx with h | h
    · subst h
      obtain ⟨c, hc, rfl⟩ := List.mem_map.1 hm
      have hu := hg.2.2.1.upd
      unfold QE at hu
      have hne : x.2.2.upd.isEmpty = false := by
        cases hq : x.2.2.upd with
        | nil => rw [hq] at hc; cases hc
        | cons => rfl
      rw [hne, Bool.false_or, Bool.and_eq_true, List.all_eq_true, List.all_eq_true] at hu
      have h1 := hu.2 c hc
      simp only [Bool.or_eq_true, Bool.and_eq_true, Option.isNone_iff_eq_none, List.any_eq_true, Bool.not_eq_true'] at h1
      rcases h1 with ⟨h1, h2⟩ | ⟨h1, h2⟩
      · exact .inl ⟨XZ h1, h2⟩
      · refine .inr ⟨Nat.eq_of_beq_eq_true h1, ?_⟩
        rcases h2 with h2 | ⟨y, hy, ⟨h3, h4⟩, h5⟩
        · exact .inl fun hq => by rw [hq] at h2; cases h2
        · exact .inr ⟨y, by simp [hy], h3, XZ h4, fun hq => by rw [hq] at h5; cases h5⟩
    · rcases Good.names hg.2.2.2 x h m hm with h1 | ⟨h1, h2 | ⟨y, hy, h3⟩⟩
      · exact .inl h1
      · exact .inr ⟨h1, .inl h2⟩
      · exact .inr ⟨h1, .inr ⟨y, by simp [hy], h3⟩⟩
theorem iK {o : Oper} {i : Nat} (h : ops[i]? = some o) : ops.getD i default = o := by
  rw [Array.getD_eq_getD_getElem?, h]; rfl
theorem Bj {o : Oper} {i : Nat} (h : ops[i]? = some o) : ops.toList.getD i default = o := by
  rw [List.getD_eq_getElem?_getD, Array.getElem?_toList, h]; rfl
theorem Good.own : ∀ {F : kF}, Good te Φ ops bs H st F → ∀ x ∈ F, x.2.2.upd ≠ [] → ∀ (k : Nat) (o : Oper), ops[k]? = some o → k ≠ x.1 → dZ k o ≠ dZ x.1 x.2.1
  | [], _, x, hx, _, _, _, _, _ => by cases hx
  | z :: r, hg, x, hx, hne, k, o, hk, hkx => by
    rcases List.mem_cons.1 hx with h | h
    · subst h
      have hu := hg.2.2.1.upd
      unfold QE at hu
      have hne : x.2.2.upd.isEmpty = false := by
        cases hq : x.2.2.upd with
        | nil => exact absurd hq hne
        | cons => rfl
      rw [hne, Bool.false_or, Bool.and_eq_true, List.all_eq_true, List.all_eq_true] at hu
      have hlt : k < ops.size := by
        rcases Nat.lt_or_ge k ops.size with h' | h'
        · exact h'
        · rw [Array.getElem?_eq_none h'] at hk; cases hk
      have h1 := hu.1 k (by simpa using hlt)
      rw [Bj hk] at h1
      simp only [Bool.or_eq_true, Bool.not_eq_true'] at h1
      rcases h1 with h1 | h1
      · exact absurd (Nat.eq_of_beq_eq_true h1) hkx
      · intro he
        rw [he, Nat.beq_refl] at h1
        cases h1
    · exact Good.own hg.2.2.2 x h hne k o hk hkx
def Qw (bs : Array Nat) (n : Nat) (D : Nat → Bool) : Prop := ∀ k, k < n → D k = true → ∀ l, cM bs k l = true → D l = true
theorem Good.origin {F : kF} (hF : Good te Φ ops bs H st F) {D : Nat → Bool} (hD : Qw bs F.length D) {m : Nat} (hm : st.hp m = none) : ∀ (L : kF), (∀ x ∈ L, x ∈ F) → (bm st D L).hp m ≠ none →
    ∃ y ∈ F, D y.1 = true ∧ jq (dZ y.1 y.2.1) m ∧ y.2.2.upd ≠ []
  | [], _, h => absurd hm h
  | x :: r, hL, h => by
    have ih := Good.origin hF hD hm r (fun y hy => hL y (by simp [hy]))
    simp only [bm] at h
    cases hd : D x.1
    · rw [hd] at h; exact ih h
    · rw [hd] at h
      simp only [cond_true, St.put] at h
      by_cases hn : m ∈ bn x.2.2.upd
      · have hx := hL x (by simp)
        rcases hF.names x hx m hn with ⟨h1, _⟩ | ⟨_, h1 | ⟨y, hy, h2, h3, h4⟩⟩
        · exact ⟨x, hx, hd, h1, fun hq => by rw [hq] at hn; simp [bn] at hn⟩
        · exact absurd hm h1
        · exact ⟨y, hy, hD x.1 (hF.mem x hx).1 hd _ h2, h3, h4⟩
      · rw [dt _ hn] at h
        exact ih h
theorem tq {D : Nat → Bool} {m : Nat} (hm : st.hp m ≠ none) : ∀ (L : kF), (bm st D L).hp m ≠ none
  | [] => hm
  | x :: r => by
    have ih := tq (D := D) hm r
    simp only [bm]
    cases D x.1
    · exact ih
    · exact Hm _ ih
end
end Sx
end Go.Proofs.YtohjofabochgfaaGreat

namespace Go.Proofs.YtohjofabochgfaaGreat
namespace Sx
open Go
theorem cL {a b : Nat} (h : Nat.blt a b = true) : a < b := Nat.le_of_ble_eq_true h
theorem PF {a b : Nat} (h : a < b) : Nat.blt a b = true := Nat.ble_eq_true_of_le h
section
variable {te : TE} {Φ : Env} {ops : Array Oper} {bs : Array Nat} {H : Hid} {st : St}
structure I2 (Φ : Env) (ops : Array Oper) (i j : Nat) (x y : Oper) : Prop where
  xy : ∀ d, x.dst = some d → d ∉ y.looksAt ops
  dd : ∀ d, x.dst = some d → y.dst ≠ some d
  yx : ∀ d, y.dst = some d → d ∉ x.looksAt ops
  slot : dZ i x ≠ dZ j y
theorem I2.symm {i j : Nat} {x y : Oper} (h : I2 Φ ops i j x y) : I2 Φ ops j i y x :=
  ⟨h.yx, fun d hd he => h.dd d he hd, h.xy, fun e => h.slot e.symm⟩
theorem ap8 {a b : Nat} (h : Nat.beq a b = false) : a ≠ b := fun e => by
  subst e
  rw [Nat.beq_refl] at h
  cases h
theorem PL (hok : fe Φ ops bs = true) {i j : Nat} {x y : Oper} (hx : ops[i]? = some x) (hy : ops[j]? = some y) (hij : i < j) (h : cM bs j i = false) : I2 Φ ops i j x y := by
  have hj : j < ops.size := by
    rcases Nat.lt_or_ge j ops.size with h' | h'
    · exact h'
    · rw [Array.getElem?_eq_none h'] at hy; cases hy
  unfold fe at hok
  rw [List.all_eq_true] at hok
  have h1 := hok j (by simpa using hj)
  rw [Bool.and_eq_true, List.all_eq_true] at h1
  have h2 := h1.2 i (by simpa using hij)
  unfold anj at h2
  simp only [iK hx, iK hy, h, Bool.false_or, Bool.and_eq_true, Bool.not_eq_true'] at h2
  obtain ⟨h3, h4⟩ := h2
  obtain ⟨a1, a2, a3⟩ := Oper.apart_spec h3
  exact ⟨a1, a2, a3, ap8 h4⟩
theorem YL {i j : Nat} {x y : Oper} (hx : ops[i]? = some x) (hy : ops[j]? = some y) (hij : i < j) (h : cM bs j i = false) (hk : (dU Φ x.op = 2 ∧ dU Φ y.op ≠ 0) ∨ (dU Φ y.op = 2 ∧ dU Φ x.op ≠ 0)) : (i, j) ∈ pI Φ ops bs := by
  have hj : j < ops.size := by
    rcases Nat.lt_or_ge j ops.size with h' | h'
    · exact h'
    · rw [Array.getElem?_eq_none h'] at hy; cases hy
  unfold pI
  refine List.mem_flatMap.2 ⟨j, by simpa using hj, List.mem_flatMap.2 ⟨i, by simpa using hij, ?_⟩⟩
  have : ahG Φ ops bs i j = true := by
    unfold ahG
    simp only [iK hx, iK hy, h, Bool.not_false, Bool.true_and, Bool.or_eq_true, Bool.and_eq_true, Bool.not_eq_true']
    have nb : ∀ {n : Nat}, n ≠ 0 → Nat.beq n 0 = false := fun {n} h => by
      cases hq : Nat.beq n 0
      · rfl
      · exact absurd (Nat.eq_of_beq_eq_true hq) h
    exact hk.imp (fun ⟨a, b⟩ => ⟨by rw [a]; rfl, nb b⟩) fun ⟨a, b⟩ => ⟨by rw [a]; rfl, nb b⟩
  rw [this]
  exact List.mem_singleton.2 rfl
theorem anw (hH : H.1 = pI Φ ops bs) {i j : Nat} {x y : Oper} (hx : ops[i]? = some x) (hy : ops[j]? = some y) (hij : i ≠ j) (h : cM bs j i = false) (h' : cM bs i j = false) (hk : (dU Φ x.op = 2 ∧ dU Φ y.op ≠ 0) ∨ (dU Φ y.op = 2 ∧ dU Φ x.op ≠ 0)) :
    rj H i = true ∧ rj H j = true ∧ (∀ n ∈ H.2.getD j [], n ∈ hid H i) ∧ (∀ n ∈ H.2.getD i [], n ∈ hid H j) := by
  have nb : ∀ {a b : Nat}, a ≠ b → Nat.beq a b = false := fun {a b} h => by
    cases hq : Nat.beq a b
    · rfl
    · exact absurd (Nat.eq_of_beq_eq_true hq) h
  unfold rj hid
  rw [hH]
  rcases Nat.lt_or_gt_of_ne hij with hlt | hlt
  · have hm := YL hx hy hlt h hk
    refine ⟨List.any_eq_true.2 ⟨_, hm, by simp⟩, List.any_eq_true.2 ⟨_, hm, by simp⟩, fun n hn => List.mem_flatMap.2 ⟨_, hm, ?_⟩, fun n hn => List.mem_flatMap.2 ⟨_, hm, ?_⟩⟩
    · simp only [Nat.beq_refl, cond_true]
      exact hn
    · simp only [nb hij, Nat.beq_refl, cond_true, cond_false]
      exact hn
  · have hm := YL hy hx hlt h' hk.symm
    refine ⟨List.any_eq_true.2 ⟨_, hm, by simp⟩, List.any_eq_true.2 ⟨_, hm, by simp⟩, fun n hn => List.mem_flatMap.2 ⟨_, hm, ?_⟩, fun n hn => List.mem_flatMap.2 ⟨_, hm, ?_⟩⟩
    · simp only [nb (Ne.symm hij), Nat.beq_refl, cond_true, cond_false]
      exact hn
    · simp only [Nat.beq_refl, cond_true]
      exact hn
theorem agx {R : List Nat} {hp : Hp} {n : Nat} {ch : Ch} (h : anv R hp n = some ch) : n ∉ R ∧ hp n = some ch := by
  cases R with
  | nil => exact ⟨by simp, h⟩
  | cons a r =>
    have h : cond ((a :: r).any fun m => Nat.beq m n) none (hp n) = some ch := h
    cases hq : (a :: r).any fun m => Nat.beq m n
    · rw [hq] at h
      refine ⟨fun hm => ?_, h⟩
      have := List.any_eq_false.1 hq n hm
      rw [Nat.beq_refl] at this
      exact this rfl
    · rw [hq] at h
      cases h
theorem X4 {R : List Nat} {hp : Hp} {n : Nat} (h : n ∉ R) : anv R hp n = hp n := by
  cases R with
  | nil => rfl
  | cons a r =>
    show cond ((a :: r).any fun m => Nat.beq m n) none (hp n) = hp n
    have : ((a :: r).any fun m => Nat.beq m n) = false := List.any_eq_false.2 fun m hm hq => h (by rw [← Nat.eq_of_beq_eq_true hq]; exact hm)
    rw [this]
    rfl
theorem agy {i n : Nat} (h : n ∈ hid H i) : rj H i = true := by
  unfold hid at h
  obtain ⟨p, hp, h⟩ := List.mem_flatMap.1 h
  refine List.any_eq_true.2 ⟨p, hp, ?_⟩
  cases h1 : Nat.beq p.1 i
  · cases h2 : Nat.beq p.2 i
    · rw [h1, h2] at h; cases h
    · rfl
  · rfl
theorem nj {i : Nat} {o : Oper} {u : List (Nat × Ch)} (h : OC H i o u = true) (hc : rj H i = true) :
    (∀ m ∈ bn u, m ∈ H.2.getD i [] ∧ m ∉ hid H i) ∧ ∀ n ∈ hid H i, ¬ jq (dZ i o) n := by
  unfold OC at h
  rw [hc, Bool.not_true, Bool.false_or, Bool.and_eq_true, List.all_eq_true, List.all_eq_true] at h
  refine ⟨fun m hm => ?_, fun n hn hb => ?_⟩
  · obtain ⟨c, hc, rfl⟩ := List.mem_map.1 hm
    have h1 := h.1 c hc
    rw [Bool.and_eq_true, List.any_eq_true, Bool.not_eq_true'] at h1
    obtain ⟨⟨k, hk, he⟩, h2⟩ := h1
    refine ⟨by rw [← Nat.eq_of_beq_eq_true he]; exact hk, fun hm => ?_⟩
    have := List.any_eq_false.1 h2 c.1 hm
    rw [Nat.beq_refl] at this
    exact this rfl
  · have h1 := h.2 n hn
    rw [Bool.not_eq_true'] at h1
    unfold jq at hb
    unfold Oz at h1
    rw [hb, Nat.beq_refl] at h1
    cases h1
theorem Good.hid : ∀ {F : kF}, Good te Φ ops bs H st F → ∀ x ∈ F, x.2.2.upd ≠ [] → OC H x.1 x.2.1 x.2.2.upd = true
  | [], _, x, hx, _ => by cases hx
  | z :: r, hg, x, hx, hne => by
    rcases List.mem_cons.1 hx with h | h
    · subst h
      obtain ⟨b, h1, h2, h3⟩ := hg.2.2.1.run
      cases b
      · rw [h3 rfl] at hne
        exact absurd rfl hne
      · exact (h2 rfl).2
    · exact Good.hid hg.2.2.2 x h hne
theorem beside (hok : fe Φ ops bs = true) {i j : Nat} {x y : Oper} (hx : ops[i]? = some x) (hy : ops[j]? = some y) (hij : i ≠ j) (h : cM bs j i = false) (h' : cM bs i j = false) : I2 Φ ops i j x y := by
  rcases Nat.lt_or_gt_of_ne hij with hlt | hlt
  · exact PL hok hx hy hlt h
  · exact (PL hok hy hx hlt h').symm
theorem Ll (hok : fe Φ ops bs = true) {i : Nat} {o : Oper} (ho : ops[i]? = some o) :
    (∀ e ∈ o.after, Region.binds .any e = true → e.on < i ∧ cM bs i e.on = true) ∧
    ∀ k, cM bs i k = true → (∀ l, cM bs k l = true → cM bs i l = true) ∧ ∃ e ∈ o.after, Region.binds .any e = true ∧ (e.on = k ∨ cM bs e.on k = true) := by
  have hi : i < ops.size := by
    rcases Nat.lt_or_ge i ops.size with h' | h'
    · exact h'
    · rw [Array.getElem?_eq_none h'] at ho; cases ho
  unfold fe at hok
  rw [List.all_eq_true] at hok
  have h1 := hok i (by simpa using hi)
  rw [Bool.and_eq_true] at h1
  have h2 := h1.1
  unfold anO at h2
  rw [Bool.and_eq_true, iK ho, Array.all_eq_true_iff_forall_mem, List.all_eq_true] at h2
  refine ⟨fun e he hb => ?_, fun k hk => ?_⟩
  · have h3 := h2.1 e he
    rw [hb] at h3
    simp only [Bool.not_true, Bool.false_or, Bool.and_eq_true] at h3
    exact ⟨cL h3.1, by unfold cM; rw [h3.1, h3.2]; rfl⟩
  · unfold cM at hk
    rw [Bool.and_eq_true] at hk
    have h3 := h2.2 k (by simpa using cL hk.1)
    rw [hk.2] at h3
    simp only [Bool.not_true, Bool.false_or, Bool.and_eq_true] at h3
    refine ⟨fun l hl => ?_, ?_⟩
    · unfold cM at hl ⊢
      rw [Bool.and_eq_true] at hl ⊢
      refine ⟨PF (Nat.lt_trans (cL hl.1) (cL hk.1)), ?_⟩
      have h4 := Nat.eq_of_beq_eq_true h3.1
      have h5 := hl.2
      rw [← h4, Nat.testBit_and, Bool.and_eq_true] at h5
      exact h5.2
    · obtain ⟨e, he, h4⟩ := Array.any_eq_true'.1 h3.2
      rw [Bool.and_eq_true, Bool.or_eq_true] at h4
      exact ⟨e, he, h4.1, h4.2.imp Nat.eq_of_beq_eq_true id⟩
theorem abM (hok : fe Φ ops bs = true) {n i : Nat} (hi : i < ops.size) : Qw bs n (cM bs i) := fun k _ hk l hl =>
  ((Ll hok (Array.getElem?_eq_getElem hi)).2 k hk).1 l hl
structure At (te : TE) (Φ : Env) (ops : Array Oper) (bs : Array Nat) (st : St) (F : kF) (D : Nat → Bool) (i : Nat) (o : Oper) (e : Eff) : Prop where
  guard : ∃ b, guarded ops.toList (bm st D F).tm o = some b ∧ (b = true → (Il te Φ (bm st D F).hp (dZ i o) (bm st D F).eval o.op).run = some (.ret e)) ∧ (b = false → e = ⟨.undef, []⟩)
  put : bm st (fun k => D k || Nat.beq k i) F = (bm st D F).put o.dst e
theorem KD {tm tm' : List SV} {o : Oper} (h : ∀ t ∈ o.looksAt ops, tm.getD t .bH = tm'.getD t .bH) : guarded ops.toList tm o = guarded ops.toList tm' o := by
  unfold guarded
  split
  · rfl
  · rename_i j want hj
    have : (ops.toList[j]?).bind (·.dst) = (ops[j]?).bind (·.dst) := by simp
    rw [this]
    split
    · rename_i d hd
      rw [h d (by simp [Oper.looksAt, hj, hd])]
    · rfl
theorem aqp (op : Op) : dU Φ op = 0 ∨ dU Φ op = 1 ∨ dU Φ op = 2 := by
  unfold dU
  repeat' split
  all_goals first | (simp; done) | (rename_i s d _; cases Nat.beq s d <;> simp)
theorem auc (hm : ax Φ) (hH : H.1 = pI Φ ops bs) (hok : fe Φ ops bs = true) {F : kF} (hF : Good te Φ ops bs H st F) (hl : F.length = ops.size) {D : Nat → Bool} (hD : Qw bs F.length D) {i : Nat} (hi : i < ops.size) (hDi : D i = false)
    (hpre : ∀ k, cM bs i k = true → D k = true) : ∃ o e, ops[i]? = some o ∧ At te Φ ops bs st F D i o e := by
  obtain ⟨o, e, r, hmem, hr, hrl, hback, hgr, hgo⟩ := hF.at i (by omega)
  have ho : ops[i]? = some o := (hF.mem _ hmem).2
  refine ⟨o, e, ho, ?_⟩
  -- those that are done and needn't come ahead
  have side : ∀ x ∈ F, D x.1 = true → cM bs i x.1 = false → I2 Φ ops i x.1 o x.2.1 ∧ cM bs x.1 i = false ∧ x.1 ≠ i := fun x hx hd hn => by
    have hne : i ≠ x.1 := fun e => by rw [e, hd] at hDi; cases hDi
    have h2 : cM bs x.1 i = false := by
      cases hq : cM bs x.1 i
      · rfl
      · rw [hD x.1 (hF.mem x hx).1 hd i hq] at hDi; cases hDi
    exact ⟨beside hok ho (hF.mem x hx).2 hne h2 hn, h2, fun e => hne e.symm⟩
  have hsame : bm st (cM bs i) F = bm st (cM bs i) r := hback _ fun k hk => by
    unfold cM
    have : Nat.blt k i = false := by
      cases hq : Nat.blt k i
      · rfl
      · have := cL hq; omega
    rw [this]; rfl
  obtain ⟨b, hb1, hb2, hb3⟩ := hgo.run
  rw [← hsame] at hb1 hb2
  have htm : ∀ t ∈ o.looksAt ops, (bm st D F).tm.getD t .bH = (bm st (cM bs i) F).tm.getD t .bH := fun t ht =>
    OR (fun x _ h => hpre _ h) fun x hx hd hn he => (side x hx hd hn).1.yx t he ht
  have hev : ∀ x ∈ o.op.operands, (bm st D F).eval x = (bm st (cM bs i) F).eval x := fun x hx => by
    cases x with
    | tmp t =>
      exact htm t (by
        unfold Oper.looksAt
        exact List.mem_append_left _ (List.mem_filterMap.2 ⟨.tmp t, by simpa using hx, rfl⟩))
    | const v => rfl
    | global g => rfl
    | func f => rfl
  have hown := hF.own _ hmem
  have hnone : ∀ n, jq (dZ i o) n → ((bm st (cM bs i) F).hp n = none ↔ (bm st D F).hp n = none) := fun n hn => by
    by_cases hs : st.hp n = none
    · have : (bm st D F).hp n = (bm st (cM bs i) F).hp n := Ea (fun x _ h => hpre _ h) fun x hx hd hp hin => by
        obtain ⟨s1, s2, s3⟩ := side x hx hd hp
        rcases hF.names x hx n hin with ⟨h1, _⟩ | ⟨_, h1 | ⟨y, hy, h2, h3, h4⟩⟩
        · exact s1.slot (by unfold jq at hn h1; omega)
        · exact h1 hs
        · by_cases hyi : y.1 = i
          · rw [hyi, s2] at h2; cases h2
          · exact hF.own y hy h4 i o ho (fun e => hyi e.symm) (by unfold jq at hn h3; omega)
      rw [this]
    · exact ⟨fun h => absurd h (tq hs F), fun h => absurd h (tq hs F)⟩
  refine ⟨⟨b, (KD htm).trans hb1, fun hb => ?_, hb3⟩, ?_⟩
  · obtain ⟨h0, hh⟩ := hb2 hb
    have hfree : ∀ n, jq (dZ i o) n → n ∉ hid H i := fun n hn hm => (nj hh (agy hm)).2 n hm hn
    rw [abF hev]
    rcases aqp (Φ := Φ) o.op with hk | hk
    · rw [ahx (d := dZ i o) (hp := anv (hid H i) (bm st (cM bs i) F).hp) (fun n hn => by rw [X4 (hfree n hn)]; exact hnone n hn) hk]
      exact h0
    · refine abE hm (d := dZ i o) (hp := anv (hid H i) (bm st (cM bs i) F).hp) ⟨fun c ch hc => ?_, fun n hn h => (hnone n hn).1 (by rw [X4 (hfree n hn)] at h; exact h)⟩ h0
      obtain ⟨hcn, hc⟩ := agx hc
      rw [← hc]
      refine Ea (fun x _ h => hpre _ h) fun x hx hd hp hin => ?_
      obtain ⟨s1, s2, s3⟩ := side x hx hd hp
      have hk2 : dU Φ x.2.1.op ≠ 2 := fun e => by
        have hk0 : dU Φ o.op ≠ 0 := by omega
        obtain ⟨_, q2, q3, _⟩ := anw hH ho (hF.mem x hx).2 (Ne.symm s3) s2 hp (.inr ⟨e, hk0⟩)
        have hne : x.2.2.upd ≠ [] := fun hq => by rw [hq] at hin; simp [bn] at hin
        exact hcn (q3 c ((nj (hF.hid x hx hne) q2).1 c hin).1)
      rcases hF.names x hx c hin with ⟨h1, h2⟩ | ⟨h1, _⟩
      · obtain ⟨y, hy, y1, y2, y3⟩ := hF.origin (abM hok hi) h2 F (fun _ h => h) (by rw [hc]; simp)
        by_cases hxy : y.1 = x.1
        · rw [hxy, hp] at y1; cases y1
        · exact hF.own y hy y3 x.1 x.2.1 (hF.mem x hx).2 (fun e => hxy e.symm) (by unfold jq at h1 y2; omega)
      · exact hk2 h1
  · refine vC hmem (fun x hx he => hF.auk x hx _ hmem he) hF.pairwise hDi fun x hx hd hlt => ?_
    have hn : cM bs i x.1 = false := by
      unfold cM
      have : Nat.blt x.1 i = false := by
        cases hq : Nat.blt x.1 i
        · rfl
        · have := cL hq; omega
      rw [this]; rfl
    obtain ⟨s1, s2, s3⟩ := side x hx hd hn
    refine ⟨s1.dd, fun m hm1 hm2 => ?_⟩
    have hne : e.upd ≠ [] := fun hq => by rw [hq] at hm1; simp [bn] at hm1
    have hne' : x.2.2.upd ≠ [] := fun hq => by rw [hq] at hm2; simp [bn] at hm2
    have n1 := hF.names _ hmem m hm1
    have n2 := hF.names x hx m hm2
    simp only at n1
    rcases n1 with ⟨a1, a2⟩ | ⟨a1, a2⟩
    · rcases n2 with ⟨b1, b2⟩ | ⟨b1, b2 | ⟨y, hy, b2, b3, b4⟩⟩
      · exact s1.slot (by unfold jq at a1 b1; omega)
      · exact b2 a2
      · by_cases hyi : y.1 = i
        · rw [hyi, s2] at b2; cases b2
        · exact hF.own y hy b4 i o ho (fun e => hyi e.symm) (by unfold jq at a1 b3; omega)
    · rcases n2 with ⟨b1, b2⟩ | ⟨b1, _⟩
      · rcases a2 with a2 | ⟨y, hy, a2, a3, a4⟩
        · exact a2 b2
        · by_cases hyx : y.1 = x.1
          · rw [hyx] at a2
            rw [hn] at a2; cases a2
          · exact hF.own y hy a4 x.1 x.2.1 (hF.mem x hx).2 (fun e => hyx e.symm) (by unfold jq at b1 a3; omega)
      · obtain ⟨q1, q2, q3, _⟩ := anw hH ho (hF.mem x hx).2 (Ne.symm s3) s2 hn (.inl ⟨a1, by rw [b1]; decide⟩)
        exact ((nj (hF.hid _ hmem hne) q1).1 m hm1).2 (q3 m ((nj (hF.hid x hx hne') q2).1 m hm2).1)
end
end Sx
end Go.Proofs.YtohjofabochgfaaGreat

namespace Go.Proofs.YtohjofabochgfaaGreat
namespace Sx
open Go
def fV (listed : Array Bool) (k : Nat) : Bool := listed.getD k false
theorem abA {listed : Array Bool} {i : Nat} (hi : i < listed.size) : fV (listed.setIfInBounds i true) = fun k => fV listed k || Nat.beq k i := by
  funext k
  unfold fV
  by_cases h : k = i
  · subst h
    simp [hi]
  · have : Nat.beq k i = false := by
      cases hq : Nat.beq k i
      · rfl
      · exact absurd (Nat.eq_of_beq_eq_true hq) h
    rw [this, Bool.or_false]
    simp [Array.getElem?_setIfInBounds_ne (Ne.symm h)]
theorem dj.drew {R : Ctx} {w : World} (h : dj R w) (n : Nat) : dj R { w with drawn := n } := by
  refine ⟨h.F, h.U, fun c ch hc => ?_, h.apart, h.FU, h.env⟩
  have := h.ch c ch hc
  unfold fm at this ⊢
  exact this
section
variable {P : Program} {te : TE} {Φ : Env} {ops : Array Oper} {bs : Array Nat} {H : Hid} {st : St}
theorem ab2 (hok : fe Φ ops bs = true) {listed : Array Bool} (hs : listed.size = ops.size) (hr : Region.ready .any ops listed = []) : ∀ k, k < ops.size → fV listed k = true := by
  intro k
  induction k using Nat.strongRecOn with
  | ind k ih =>
    intro hk
    cases hq : fV listed k
    · have : k ∈ Region.ready .any ops listed := mem_ready.2 ⟨by
        unfold fV at hq
        have hk' : k < listed.size := by omega
        simpa [hk'] using hq, ops[k], Array.getElem?_eq_getElem hk, fun e he hb => by
          have := ((Ll hok (Array.getElem?_eq_getElem hk)).1 e he hb).1
          exact ih e.on this (by omega)⟩
      rw [hr] at this
      cases this
    · rfl
theorem amR (hte : lv P te) (hΦ : aV P Φ) (hmono : ax Φ) (hH : H.1 = pI Φ ops bs) (hok : fe Φ ops bs = true) {F : kF} (hF : Good te Φ ops bs H st F) (hl : F.length = ops.size)
    {R₀ : Ctx} {K : SE → St → Prop} {Q : Exit → Act → World → Prop} (hK : I1 R₀ K Q) (hend : K .normal (bm st (fun _ => true) F)) :
    ∀ (fuel : Nat) (listed : Array Bool) (R : Ctx) (a : Act) (w : World), listed.size = ops.size → listed.toList.count false = fuel → Qw bs F.length (fV listed) → R₀.Ext R →
      se R (bm st (fV listed) F) a w → wpAny P .any ops Q fuel listed a w := by
  have done : ∀ (listed : Array Bool) (R : Ctx) (a : Act) (w : World), (∀ k, k < ops.size → fV listed k = true) → R₀.Ext R → se R (bm st (fV listed) F) a w → Q .normal a w := fun listed R a w h hx hst => by
    rw [k9 (D' := fun _ => true) fun x hx => h x.1 (by have := (hF.mem x hx).1; omega)] at hst
    exact hK.normal R _ a w hx hst hend
  intro fuel
  induction fuel with
  | zero =>
    intro listed R a w hs hc hD hx hst
    have hall : ∀ k, k < ops.size → fV listed k = true := fun k hk => by
      have hk' : k < listed.size := by omega
      have h1 := List.count_eq_zero.1 hc
      unfold fV
      cases hq : listed[k]
      · exact absurd (by rw [← hq]; simp) h1
      · simp [hk', hq]
    refine ⟨?_, done listed R a w hall hx hst⟩
    cases hr : Region.ready .any ops listed with
    | nil => rfl
    | cons i r =>
      have : i ∈ Region.ready .any ops listed := by rw [hr]; simp
      obtain ⟨h1, o, ho, h2⟩ := mem_ready.1 this
      have hi : i < ops.size := (Array.getElem?_eq_some_iff.1 ho).1
      have := hall i hi
      have hi' : i < listed.size := by omega
      unfold fV at this
      simp [hi'] at this h1
      rw [this] at h1
      cases h1
  | succ fuel ih =>
    intro listed R a w hs hc hD hx hst
    refine ⟨fun hr => done listed R a w (ab2 hok hs hr) hx hst, fun i hi => ?_⟩
    obtain ⟨h1, o, ho, h2⟩ := mem_ready.1 hi
    have hi' : i < ops.size := (Array.getElem?_eq_some_iff.1 ho).1
    have hil : i < listed.size := by omega
    have hnot : listed[i] = false := by simpa [hil] using h1
    have hDi : fV listed i = false := by unfold fV; simp [hil, hnot]
    have hpre : ∀ k, cM bs i k = true → fV listed k = true := fun k hk => by
      obtain ⟨e, he, hb, h3 | h3⟩ := ((Ll hok ho).2 k hk).2
      · rw [← h3]; exact h2 e he hb
      · have h4 := ((Ll hok ho).1 e he hb).1
        exact hD e.on (by omega) (h2 e he hb) k h3
    obtain ⟨o', e, ho', hat⟩ := auc hmono hH hok hF hl hD hi' hDi hpre
    rw [ho] at ho'
    cases ho'
    have hset := abA hil
    have hcount : (listed.setIfInBounds i true).toList.count false = fuel := by
      rw [Array.toList_setIfInBounds, List.count_set (by simpa using hil)]
      simp [hnot, hc]
    have hclosed : Qw bs F.length (fV (listed.setIfInBounds i true)) := fun k hk hd l hpl => by
      rw [hset] at hd ⊢
      simp only [Bool.or_eq_true] at hd ⊢
      rcases hd with hd | hd
      · exact .inl (hD k hk hd l hpl)
      · rw [Nat.eq_of_beq_eq_true hd] at hpl
        exact .inl (hpre l hpl)
    obtain ⟨b, g1, g2, g3⟩ := hat.guard
    have hw := sb hst g1
    unfold wpOp
    simp only [ho, hw]
    cases b
    · simp only [Bool.false_eq_true, if_false]
      refine ih _ R _ _ (by simpa using hs) hcount hclosed hx ?_
      rw [hset, hat.put, g3 rfl]
      exact hst.undef o.dst
    · simp only [if_true]
      refine .inl (Ik hte hΦ hst (g2 rfl) ?_)
      exact fun R' w' v ha hv => ih _ R' _ _ (by simpa using hs) hcount hclosed (hx.trans ha.ext) (by rw [hset, hat.put]; exact hst.put ha hv o.dst)
theorem aN (hm : P.follows .mixedOrders = true) (hte : lv P te) (hΦ : aV P Φ) (hmono : ax Φ) : aZ P te Φ := by
  intro R₀ id ops K Q R st a w hK hx hst hok h
  obtain ⟨F, h1, h2, h3⟩ := B4 (te := te) (Φ := Φ) (ops := ops) (bs := nY ops) (H := aaR te Φ ops (nY ops) st) (st := st) ops.toList [] trivial (fun k => by simp) h
  have hl : F.length = ops.size := by simpa using h2
  refine wp_region_any hm (amR hte hΦ hmono agz hok h1 hl hK h3 ops.size _ R a _ (by simp) (by simp) ?_ hx ?_)
  · intro k _ hd
    unfold fV at hd
    simp [Array.getD] at hd
  · have : bm st (fV (Array.replicate ops.size false)) F = st := by
      rw [k9 (D' := fun _ => false) fun x hx => by unfold fV; simp [Array.getD]]
      clear h h1 h2 h3 hl
      induction F with
      | nil => rfl
      | cons y r ih => exact ih
    rw [this]
    exact ⟨hst.hp, hst.mem.drew _, hst.tm, hst.defers⟩
end
end Sx
end Go.Proofs.YtohjofabochgfaaGreat

namespace Go.Proofs.YtohjofabochgfaaGreat
namespace Sx
open Go
def zi (ok : Nat → Bool) (t : Ty) (hp : Hp) : SV → Option (List t.T)
  | .lst t' xs => bU t t' xs
  | .emp => some []
  | .own c e | .clip c e => match hp c with
    | some ⟨ep, .row t' xs⟩ => cond (Nat.beq ep e && ok c) (bU t t' xs) none
    | some ⟨ep, .frz t' xs⟩ => cond (Nat.beq ep e) (bU t t' xs) none
    | _ => none
  | .part c e off len => match hp c with
    | some ⟨ep, .row t' xs⟩ => cond (Nat.beq ep e && ok c) ((bU t t' xs).map fun l => (l.drop off).take len) none
    | some ⟨ep, .frz t' xs⟩ => cond (Nat.beq ep e) ((bU t t' xs).map fun l => (l.drop off).take len) none
    | _ => none
  | _ => none
def s9 (ok : Nat → Bool) (hp : Hp) : (t : Ty) → List SV → Option t.T
  | .bool, cs => afL cs
  | .u64, cs => aso cs
  | .u8, cs => pU8 cs
  | .int, cs => asr cs
  | .str, cs => asp cs
  | .elem, cs => afK cs
  | .prod a b, cs => oX (s9 ok hp a (cs.take a.size)) (s9 ok hp b (cs.drop a.size))
  | .arr n t, cs => if cs.length = n * t.size then (List.range n).mapM fun i => s9 ok hp t ((cs.drop (i * t.size)).take t.size) else none
  | .list t, cs => if 0 < t.size then anl (zi ok t hp) cs else none
section
variable {R : Ctx} {w : World} {F' : Nat → Option Obj} {ok : Nat → Bool} (hm : dj R w) (hF : ∀ b o, R.F b = some o → F' b = some o)
  (hok : ∀ c ch L, ok c = true → R.hp c = some ch → R.σ c = some L → F' L.block = w.heap[L.block]?)
include hm hF hok
theorem Aq {c e off len : Nat} {v : Value} {t : Ty} {xs : List t.T} {b : Chunk} (hc : R.hp c = some ⟨e, b⟩) (hb : (b = .row t xs ∧ ok c = true) ∨ b = .frz t xs) (h : R.part c e off len v) :
    Rep F' (.list t) ((xs.drop off).take len) [v] := by
  obtain ⟨h1, h2, ad, cap, rfl, h4, h5⟩ := Ctx.du hc h
  have hsh : b.shape = (true, t.size, xs.length) := by rcases hb with ⟨rfl, _⟩ | rfl <;> rfl
  rw [hsh] at h2 h5
  simp only at h2 h5
  have hlen : ((xs.drop off).take len).length = len := by simp; omega
  have hch := hm.ch c _ hc
  have key : ∀ (L : Loc) (arr : Array Value) (E : TypeId) (fz : Nat × Nat), R.σ c = some L → xs.length ≤ ct → F' L.block = some (.cells arr E fz) → arr.size = L.base + L.lim → xs.length * t.size ≤ L.lim → Lw R arr L.base t xs →
      Rep F' (.list t) ((xs.drop off).take len) [.slice ad len cap] := fun L arr E fz hσ hmx hbk ha hl hrow => by
    rw [hσ] at h5
    obtain ⟨h6, h7⟩ := h5
    refine ⟨by omega, ad, cap, by rw [hlen], by omega, ?_⟩
    by_cases hl0 : len = 0
    · left; exact List.eq_nil_of_length_eq_zero (by omega)
    · right
      have hle : (off + len) * t.size ≤ xs.length * t.size := Nat.mul_le_mul_right _ h2
      rw [Nat.add_mul] at hle
      refine ⟨L.block, L.base + off * t.size, arr, E, fz, h7 (by omega), hbk, by rw [hlen]; omega, fun i hi => ?_⟩
      rw [hlen] at hi
      have e1 : ((xs.drop off).take len).getD i t.d = xs.getD (off + i) t.d := by
        simp only [List.getD_eq_getElem?_getD]
        rw [List.getElem?_take_of_lt hi, List.getElem?_drop]
      rw [e1, Nat.add_assoc, ← Nat.add_mul]
      exact bZ hF _ _ _ (hrow _ (by omega))
  cases hσ : R.σ c with
  | none =>
    rw [hσ] at h5
    simp only at h5
    have : (xs.drop off).take len = [] := List.eq_nil_of_length_eq_zero (by omega)
    rw [this]
    have hl0 : len = 0 := by omega
    subst hl0
    exact pO t ad cap
  | some L =>
    rcases hb with ⟨rfl, hk⟩ | rfl
    · simp only [fm, hσ] at hch
      obtain ⟨_, hmx, _, _, arr, E, hbk, ha, hl, hrow⟩ := hch
      exact key L arr E _ hσ hmx (by rw [hok c _ L hk hc hσ]; exact hbk) ha hl hrow
    · simp only [fm, hσ] at hch
      obtain ⟨_, hmx, arr, E, fz, hbk, ha, hl, hrow⟩ := hch
      exact key L arr E fz hσ hmx (hF _ _ hbk) ha hl hrow
theorem nu {c e : Nat} {t t' : Ty} {xs : List t'.T} {ys : List t.T} {v : Value} {b : Chunk} (hc : R.hp c = some ⟨e, b⟩) (hb : (b = .row t' xs ∧ ok c = true) ∨ b = .frz t' xs) (hy : bU t t' xs = some ys) (h : R.own c e v) :
    Rep F' (.list t) ys [v] := by
  obtain ⟨e, rfl⟩ := be hy
  subst e
  have := Aq hm hF hok hc hb (Ctx.cT hc h)
  have hsh : b.shape = (true, t'.size, xs.length) := by rcases hb with ⟨rfl, _⟩ | rfl <;> rfl
  rw [hsh] at this
  simpa using this
theorem Ap {c e off len : Nat} {t t' : Ty} {xs : List t'.T} {ys : List t.T} {v : Value} {b : Chunk} (hc : R.hp c = some ⟨e, b⟩) (hb : (b = .row t' xs ∧ ok c = true) ∨ b = .frz t' xs)
    (hy : (bU t t' xs).map (fun l => (l.drop off).take len) = some ys) (h : R.part c e off len v) : Rep F' (.list t) ys [v] := by
  cases hr : bU t t' xs with
  | none => rw [hr] at hy; cases hy
  | some zs =>
    rw [hr] at hy
    cases hy
    obtain ⟨e, rfl⟩ := be hr
    subst e
    exact Aq hm hF hok hc hb h
theorem PB {t : Ty} {x : SV} {ys : List t.T} {v : Value} (h : zi ok t R.hp x = some ys) (hx : SV.rel R x v) : Rep F' (.list t) ys [v] := by
  cases x <;> simp only [zi] at h <;> try (cases h; done)
  case lst t' xs =>
    obtain ⟨e, rfl⟩ := be h
    subst e
    simp only [SV.rel] at hx
    exact bZ hF _ _ _ hx
  case emp =>
    cases h
    simp only [SV.rel] at hx
    obtain ⟨ad, rfl⟩ := hx
    exact pO t ad 0
  case own c e =>
    simp only [SV.rel] at hx
    split at h
    · rename_i ep t' xs hc
      cases hb : Nat.beq ep e && ok c
      · rw [hb] at h; cases h
      · rw [hb] at h
        rw [Bool.and_eq_true] at hb
        have := Nat.eq_of_beq_eq_true hb.1
        subst this
        exact nu hm hF hok hc (.inl ⟨rfl, hb.2⟩) h hx.2
    · rename_i ep t' xs hc
      cases hb : Nat.beq ep e
      · rw [hb] at h; cases h
      · rw [hb] at h
        have := Nat.eq_of_beq_eq_true hb
        subst this
        exact nu hm hF hok hc (.inr rfl) h hx.2
    · cases h
  case clip c e =>
    simp only [SV.rel] at hx
    split at h
    · rename_i ep t' xs hc
      cases hb : Nat.beq ep e && ok c
      · rw [hb] at h; cases h
      · rw [hb] at h
        rw [Bool.and_eq_true] at hb
        have := Nat.eq_of_beq_eq_true hb.1
        subst this
        exact nu hm hF hok hc (.inl ⟨rfl, hb.2⟩) h hx.2.1
    · rename_i ep t' xs hc
      cases hb : Nat.beq ep e
      · rw [hb] at h; cases h
      · rw [hb] at h
        have := Nat.eq_of_beq_eq_true hb
        subst this
        exact nu hm hF hok hc (.inr rfl) h hx.2.1
    · cases h
  case part c e off len =>
    simp only [SV.rel] at hx
    split at h
    · rename_i ep t' xs hc
      cases hb : Nat.beq ep e && ok c
      · rw [hb] at h; cases h
      · rw [hb] at h
        rw [Bool.and_eq_true] at hb
        have := Nat.eq_of_beq_eq_true hb.1
        subst this
        exact Ap hm hF hok hc (.inl ⟨rfl, hb.2⟩) h hx.2
    · rename_i ep t' xs hc
      cases hb : Nat.beq ep e
      · rw [hb] at h; cases h
      · rw [hb] at h
        have := Nat.eq_of_beq_eq_true hb
        subst this
        exact Ap hm hF hok hc (.inr rfl) h hx.2
    · cases h
theorem uF : ∀ (t : Ty) (cs : List SV) (x : t.T) (vs : List Value), s9 ok R.hp t cs = some x → SV.bQ R cs vs → Rep F' t x vs
  | .bool, cs, x, vs, h, hr => bZ hF _ _ _ (fy hm .bool cs x vs h hr)
  | .u64, cs, x, vs, h, hr => bZ hF _ _ _ (fy hm .u64 cs x vs h hr)
  | .u8, cs, x, vs, h, hr => bZ hF _ _ _ (fy hm .u8 cs x vs h hr)
  | .int, cs, x, vs, h, hr => bZ hF _ _ _ (fy hm .int cs x vs h hr)
  | .str, cs, x, vs, h, hr => bZ hF _ _ _ (fy hm .str cs x vs h hr)
  | .elem, cs, x, vs, h, hr => bZ hF _ _ _ (fy hm .elem cs x vs h hr)
  | .prod a b, cs, x, vs, h, hr => by
    obtain ⟨h1, h2⟩ := bC h
    have r1 := uF a _ _ _ h1 (SV.ec hr a.size)
    have r2 := uF b _ _ _ h2 (SV.ee hr a.size)
    refine ⟨?_, r1, r2⟩
    rw [← List.take_append_drop a.size vs, List.length_append, rG _ _ _ r1, rG _ _ _ r2]
  | .arr n t, cs, x, vs, h, hr => by
    simp only [s9] at h
    split at h
    · rename_i hl
      obtain ⟨h1, h2⟩ := o7 t.d h
      refine ⟨by rw [SV.aQ hr, hl], by simpa using h1, fun i hi => ?_⟩
      have := h2 i (by simpa using hi)
      simp only [List.getElem_range] at this
      exact uF t _ _ _ this (SV.ec (SV.ee hr (i * t.size)) t.size)
    · cases h
  | .list t, cs, x, vs, h, hr => by
    simp only [s9] at h
    split at h
    · obtain ⟨y, rfl, hy⟩ := lU h
      obtain ⟨v, rfl, hv⟩ := cm hr
      exact PB hm hF hok hy hv
    · cases h
end
theorem oW {ok : Nat → Bool} {hp : Hp} : ∀ {t : Ty} {cs : List SV} {x : t.T}, s9 ok hp t cs = some x → cs.length = t.size
  | .bool, cs, x, h => by rw [HF h]; rfl
  | .u64, cs, x, h => by rw [N7 h]; rfl
  | .u8, cs, x, h => by rw [Xx h]; rfl
  | .int, cs, x, h => by rw [N9 h]; rfl
  | .str, cs, x, h => by rw [N8 h]; rfl
  | .elem, cs, x, h => by rw [HE h]; rfl
  | .prod a b, cs, x, h => by
    obtain ⟨h1, h2⟩ := bC h
    have l1 := oW h1
    have l2 := oW h2
    simp only [List.length_take, List.length_drop] at l1 l2
    simp only [Ty.size]
    omega
  | .arr n t, cs, x, h => by
    simp only [s9] at h
    split at h
    · assumption
    · cases h
  | .list t, cs, x, h => by
    simp only [s9] at h
    split at h
    · obtain ⟨y, rfl, _⟩ := lU h
      rfl
    · cases h
end Sx
end Go.Proofs.YtohjofabochgfaaGreat

namespace Go.Proofs.YtohjofabochgfaaGreat
namespace Sx
open Go
inductive Sh where
  | val (b : Bool) (t : Ty)
  | own (n : Nat)
  | ptr (n i off : Nat)
  | fn (f : FuncId) (ns : List Nat)
  | ifp (t : TypeId) (n : Nat)
  | nQ | dF | undef
def Sh.T : Sh → Type
  | .val _ t => t.T
  | _ => Unit
inductive CSh where
  | row (t : Ty)
  | frz (t : Ty)
  | cells (l : List Sh)
  | gone
def ShT : List Sh → Type
  | [] => Unit
  | s :: r => s.T × ShT r
def CSh.T : CSh → Type
  | .row t => List t.T
  | .frz t => List t.T
  | .cells l => ShT l
  | .gone => Unit
def CSh.ep : CSh → Nat
  | .gone => 1
  | _ => 0
def CSh.vv : CSh → Bool
  | .gone => true
  | _ => false
def Ga : List (Nat × CSh) → Type
  | [] => Unit
  | c :: r => c.2.T × Ga r
def SlT : List (Nat × Sh) → Type
  | [] => Unit
  | c :: r => c.2.T × SlT r
abbrev Bd := List (Nat × Option Nat)
def cX : Bd → Nat → Option (Option Nat)
  | [], _ => none
  | (m, o) :: r, n => cond (Nat.beq m n) (some o) (cX r n)
def TV (b : Bd) (n : Nat) (o : Option Nat) : Bd := match cX b n with
  | some _ => b
  | none => (n, o) :: b
def BT : List Nat → List SV → Bd → Bd
  | n :: ns, .ptr c _ _ _ :: r, b => BT ns r (TV b n (some c))
  | _, _, b => b
def Lo : Sh → SV → Bd → Bd
  | .own n, .own c _, b => TV b n (some c)
  | .own n, .emp, b => TV b n none
  | .ptr n _ _, .ptr c _ _ _, b => TV b n (some c)
  | .fn _ ns, .fn _ _ caps, b => BT ns caps b
  | .ifp _ n, .iface _ (.ptr c _ _ _), b => TV b n (some c)
  | _, _, b => b
def Sh.size : Sh → Nat
  | .val _ t => t.size
  | _ => 1
def mw : List Sh → List SV → Bd → Bd
  | s :: r, cs, b => mw r (cs.drop s.size) (Lo s (cs.headD .bH) b)
  | [], _, b => b
def PJ (tm : List SV) : List (Nat × Sh) → Bd → Bd
  | (i, s) :: r, b => PJ tm r (Lo s (tm.getD i .bH) b)
  | [], b => b
def eD (hp : Hp) : List (Nat × CSh) → Bd → Bd
  | (n, .cells l) :: r, b => eD hp r (match cX b n with
    | some (some c) => match hp c with
      | some ⟨_, .cells vs⟩ => mw l vs b
      | _ => b
    | _ => b)
  | _ :: r, b => eD hp r b
  | [], b => b
def yK (bd : Bd) (hp : Hp) (n c e : Nat) : Bool := match cX bd n with
  | some (some c') => Nat.beq c' c && (match hp c with
    | some ch => Nat.beq ch.ep e
    | none => false)
  | _ => false
def DS (bd : Bd) (n : Nat) : Bool := match cX bd n with
  | some none => true
  | _ => false
def tH (bd : Bd) (hp : Hp) : List Nat → List SV → Bool
  | [], [] => true
  | n :: ns, .ptr c e i off :: r => yK bd hp n c e && Nat.beq i 0 && Nat.beq off 0 && tH bd hp ns r
  | _, _ => false
def Gl (b : Bool) : Option Unit := cond b (some ()) none
def kG (bd : Bd) (hp : Hp) : Sh → List SV → Bool
  | .own n, [.own c e] => yK bd hp n c e
  | .own n, [.emp] => DS bd n
  | .ptr n i off, [.ptr c e i' off'] => yK bd hp n c e && Nat.beq i i' && Nat.beq off off'
  | .fn f ns, [.fn (.func f') [] caps] => Nat.beq f f' && tH bd hp ns caps
  | .ifp t n, [.iface t' (.ptr c e i off)] => Nat.beq t t' && (yK bd hp n c e && (Nat.beq i 0 && Nat.beq off 0))
  | .nQ, [.nQ] => true
  | .dF, [.dF] => true
  | .undef, [.undef] => true
  | _, _ => false
def oQ (bd : Bd) (ok : Nat → Bool) (hp : Hp) : (s : Sh) → List SV → Option s.T
  | .val _ t => fun cs => s9 ok hp t cs
  | .own n => fun cs => Gl (kG bd hp (.own n) cs)
  | .ptr n i off => fun cs => Gl (kG bd hp (.ptr n i off) cs)
  | .fn f ns => fun cs => Gl (kG bd hp (.fn f ns) cs)
  | .ifp t n => fun cs => Gl (kG bd hp (.ifp t n) cs)
  | .nQ => fun cs => Gl (kG bd hp .nQ cs)
  | .dF => fun cs => Gl (kG bd hp .dF cs)
  | .undef => fun cs => Gl (kG bd hp .undef cs)
def pb : (s : Sh) → s.T → List SV
  | .val _ t, x => unpack t x
  | .own n, _ => [.own n 0]
  | .ptr n i off, _ => [.ptr n 0 i off]
  | .fn f ns, _ => [.fn (.func f) [] (ns.map fun n => .ptr n 0 0 0)]
  | .ifp t n, _ => [.iface t (.ptr n 0 0 0)]
  | .nQ, _ => [.nQ]
  | .dF, _ => [.dF]
  | .undef, _ => [.undef]
def Sh.agg : Sh → Bool
  | .val b _ => b
  | _ => false
def Ml : Bool → SV → Option (List SV)
  | true, .agg l => some l
  | true, _ => none
  | false, x => some [x]
def yg (bd : Bd) (ok : Nat → Bool) (hp : Hp) (s : Sh) (x : SV) : Option s.T :=
  match Ml s.agg x with
  | some l => oQ bd ok hp s l
  | none => none
def pa (s : Sh) (x : s.T) : SV := n5 s.agg (pb s x)
def kQ (bd : Bd) (ok : Nat → Bool) (hp : Hp) : (l : List Sh) → List SV → Option (ShT l)
  | [], [] => some ()
  | [], _ :: _ => none
  | s :: r, cs => oX (oQ bd ok hp s (cs.take s.size)) (kQ bd ok hp r (cs.drop s.size))
def jp : (l : List Sh) → ShT l → List SV
  | [], _ => []
  | s :: r, x => pb s x.1 ++ jp r x.2
def qO (bd : Bd) (ok : Nat → Bool) (hp : Hp) (tm : List SV) : (l : List (Nat × Sh)) → Option (SlT l)
  | [] => some ()
  | c :: r => oX (yg bd ok hp c.2 (tm.getD c.1 .bH)) (qO bd ok hp tm r)
def eM : (l : List (Nat × Sh)) → SlT l → List SV → List SV
  | [], _, tm => tm
  | c :: r, x, tm => eM r x.2 (tm.set c.1 (pa c.2 x.1))
def gw (bd : Bd) (ok : Nat → Bool) (hp : Hp) : (s : CSh) → Chunk → Option s.T
  | .row t, .row t' xs => bU t t' xs
  | .row _, _ => none
  | .frz t, .frz t' xs => bU t t' xs
  | .frz _, _ => none
  | .cells l, .cells vs => kQ bd ok hp l vs
  | .cells _, _ => none
  | .gone, _ => none
def DX : (s : CSh) → Option s.T
  | .gone => some ()
  | _ => none
def J6 : (s : CSh) → Option s.T
  | .row t => cond (Nat.blt 0 t.size) (some ([] : List t.T)) none
  | _ => none
def bI : (s : CSh) → s.T → Chunk
  | .row t, xs => .row t xs
  | .frz t, xs => .frz t xs
  | .cells l, x => .cells (jp l x)
  | .gone, _ => .row .u8 []
def jf (bd : Bd) (ok : Nat → Bool) (hp : Hp) (n : Nat) (s : CSh) : Option s.T :=
  match cX bd n with
  | some (some c) => match hp c with
    | some ch => gw bd ok hp s ch.body
    | none => none
  | some none => J6 s
  | none => DX s
def dL (bd : Bd) (ok : Nat → Bool) (hp : Hp) : (l : List (Nat × CSh)) → Option (Ga l)
  | [] => some ()
  | c :: r => oX (jf bd ok hp c.1 c.2) (dL bd ok hp r)
def dI : (l : List (Nat × CSh)) → Ga l → Hp
  | [], _ => fun _ => none
  | c :: r, x => fun n => cond (Nat.beq n c.1) (some ⟨c.2.ep, bI c.2 x.1⟩) (dI r x.2 n)
def aqq (c : Nat) (p : Nat × Option Nat) : Bool := match p.2 with
  | some o => Nat.beq o c
  | none => false
def ph (lists : Bool) (bd : Bd) (c : Nat) : Bool := lists && !(bd.any (aqq c))
structure Shape where
  n : Nat
  akG : List (Nat × Sh)
  chunks : List (Nat × CSh)
  fixed : Nat
  lists : Bool := true
abbrev Shape.T (s : Shape) : Type := SlT s.akG × Ga s.chunks
def Shape.inj (s : Shape) (x : s.T) : St := ⟨eM s.akG x.1 (List.replicate s.n .bH), dI s.chunks x.2⟩
def Shape.bd (s : Shape) (st : St) : Bd := eD st.hp s.chunks (PJ st.tm s.akG (((List.range s.fixed).filter fun k => !(s.chunks.any fun c => Nat.beq c.1 k && c.2.vv)).map fun k => (k, some k)))
def distinct : List Nat → Bool
  | [] => true
  | x :: r => !(r.any fun y => Nat.beq x y) && distinct r
def Shape.Gb (s : Shape) (st : St) (bd : Bd) : Bool :=
  distinct (s.chunks.map (·.1)) &&
  s.chunks.all (fun c => s.chunks.all fun c' => Nat.beq c.1 c'.1 || (match cX bd c.1, cX bd c'.1 with
    | some (some o), some (some o') => !Nat.beq o o'
    | _, _ => true)) &&
  bd.all (fun p => s.chunks.any fun c => Nat.beq c.1 p.1) &&
  (List.range s.fixed).all fun k => (match cX bd k with
    | some (some c) => Nat.beq c k && (match st.hp k with
      | some ch => Nat.beq ch.ep 0
      | none => false)
    | some none => false
    | none => s.chunks.any fun c => Nat.beq c.1 k && c.2.vv)
def Shape.prj (s : Shape) (st : St) : Option s.T :=
  let bd := s.bd st
  cond (s.Gb st bd && Nat.beq st.tm.length s.n) (oX (qO bd (ph s.lists bd) st.hp st.tm s.akG) (dL bd (ph s.lists bd) st.hp s.chunks)) none
def Shape.on (s : Shape) (st : St) (k : s.T → Prop) : Prop := match s.prj st with
  | some x => k x
  | none => False
end Sx
end Go.Proofs.YtohjofabochgfaaGreat

namespace Go.Proofs.YtohjofabochgfaaGreat
namespace Sx
open Go
theorem hZ {b : Bool} {x : Unit} (h : Gl b = some x) : b = true := by
  cases b
  · cases h
  · rfl
theorem fU {bd : Bd} {hp : Hp} {s : Sh} {cs : List SV} (h : kG bd hp s cs = true) : ∃ y, cs = [y] := by
  unfold kG at h
  split at h <;> first | exact ⟨_, rfl⟩ | (cases h; done)
theorem JR {bd : Bd} {ok : Nat → Bool} {hp : Hp} {s : Sh} {cs : List SV} {x : s.T} (h : oQ bd ok hp s cs = some x) : (pb s x).length = cs.length := by
  cases s <;> simp only [oQ] at h
  case val b t => rw [oW h]; exact fZ t x
  all_goals (obtain ⟨y, rfl⟩ := fU (hZ h); rfl)
theorem j5 {bd : Bd} {ok : Nat → Bool} {hp : Hp} : ∀ {l : List Sh} {cs : List SV} {x : ShT l}, kQ bd ok hp l cs = some x → (jp l x).length = cs.length
  | [], [], _, _ => rfl
  | [], _ :: _, _, h => by cases h
  | s :: r, cs, x, h => by
    obtain ⟨h1, h2⟩ := bC h
    have l1 := JR h1
    have l2 := j5 h2
    simp only [jp, List.length_append, l1, l2, List.length_take, List.length_drop]
    omega
theorem r7 {bd : Bd} {ok : Nat → Bool} {hp : Hp} {s : CSh} {b : Chunk} {y : s.T} (h : gw bd ok hp s b = some y) : (bI s y).shape = b.shape := by
  cases s <;> cases b <;> simp only [gw] at h <;> first | (cases h; done) | skip
  case row.row t t' xs =>
    obtain ⟨e, rfl⟩ := be h
    subst e
    rfl
  case frz.frz t t' xs =>
    obtain ⟨e, rfl⟩ := be h
    subst e
    rfl
  case cells.cells l vs =>
    simp only [bI, Chunk.shape, j5 h]
theorem dP {bd : Bd} {ok : Nat → Bool} {hp : Hp} : ∀ {l : List (Nat × CSh)} {x : Ga l}, dL bd ok hp l = some x → ∀ {n : Nat} {ch : Ch}, dI l x n = some ch →
    ∃ (s : CSh) (y : s.T), (n, s) ∈ l ∧ jf bd ok hp n s = some y ∧ ch = ⟨s.ep, bI s y⟩
  | [], _, _, _, _, h => by cases h
  | c :: r, x, h, n, ch, hn => by
    obtain ⟨h1, h2⟩ := bC h
    simp only [dI] at hn
    cases hb : Nat.beq n c.1
    · rw [hb] at hn
      obtain ⟨s, y, h3, h4⟩ := dP h2 hn
      exact ⟨s, y, List.mem_cons_of_mem _ h3, h4⟩
    · rw [hb] at hn
      have hnc := Nat.eq_of_beq_eq_true hb
      subst hnc
      exact ⟨c.2, x.1, by simp, h1, (Option.some.inj hn).symm⟩
theorem pc : ∀ {l : List (Nat × CSh)} {x : Ga l} {n : Nat}, (∃ s, (n, s) ∈ l) → ∃ ch, dI l x n = some ch
  | [], _, _, h => by obtain ⟨_, h⟩ := h; cases h
  | c :: r, x, n, h => by
    simp only [dI]
    cases hb : Nat.beq n c.1
    · obtain ⟨s, h⟩ := h
      rcases List.mem_cons.1 h with h | h
      · rw [← h, Nat.beq_refl] at hb; cases hb
      · exact pc ⟨s, h⟩
    · exact ⟨_, rfl⟩
theorem PU : ∀ {bd : Bd} {n : Nat} {o : Option Nat}, cX bd n = some o → ∃ p ∈ bd, p.1 = n
  | [], _, _, h => by cases h
  | (m, o') :: r, n, o, h => by
    simp only [cX] at h
    cases hb : Nat.beq m n
    · rw [hb] at h
      obtain ⟨p, hp, h1⟩ := PU h
      exact ⟨p, by simp [hp], h1⟩
    · exact ⟨(m, o'), by simp, Nat.eq_of_beq_eq_true hb⟩
def Ctx.named (R : Ctx) (F' : Nat → Option Obj) (U' : P0) (bd : Bd) (hp : Hp) : Ctx := ⟨F', U', fun n => match cX bd n with
  | some (some c) => R.σ c
  | _ => none, hp⟩
section
variable {s : Shape} {R : Ctx} {st : St} {bd : Bd} {ok : Nat → Bool} {F' : Nat → Option Obj} {U' : P0} {x : Ga s.chunks} (hok : s.Gb st bd = true) (hx : dL bd ok st.hp s.chunks = some x) (hR : R.hp = st.hp)
include hok hx
theorem Lq {n : Nat} {o : Option Nat} (h : cX bd n = some o) : ∃ (cs : CSh) (y : cs.T), jf bd ok st.hp n cs = some y ∧ dI s.chunks x n = some ⟨0, bI cs y⟩ := by
  obtain ⟨p, hp, rfl⟩ := PU h
  unfold Shape.Gb at hok
  simp only [Bool.and_eq_true, List.all_eq_true, List.any_eq_true] at hok
  obtain ⟨c, hc, hcn⟩ := hok.1.2 p hp
  have := Nat.eq_of_beq_eq_true hcn
  obtain ⟨ch, hch⟩ := pc (x := x) (n := p.1) ⟨c.2, by rw [← this]; exact hc⟩
  obtain ⟨cs, y, h1, h2, h3⟩ := dP hx hch
  refine ⟨cs, y, h2, ?_⟩
  rw [hch, h3]
  have : cs.ep = 0 := by
    cases cs <;> try rfl
    simp only [jf, h] at h2
    exfalso
    split at h2
    · rename_i heq
      split at h2 <;> simp [gw] at h2
    · simp [J6] at h2
    · rename_i heq
      cases heq
  rw [this]
theorem J4 {n c e : Nat} (h : yK bd st.hp n c e = true) : ∃ b b', st.hp c = some ⟨e, b⟩ ∧ dI s.chunks x n = some ⟨0, b'⟩ ∧ b'.shape = b.shape ∧ (R.named F' U' bd (dI s.chunks x)).σ n = R.σ c := by
  unfold yK at h
  split at h
  · rename_i c' hb
    rw [Bool.and_eq_true] at h
    have := Nat.eq_of_beq_eq_true h.1
    subst this
    have h2 := h.2
    split at h2
    · rename_i ch hch
      have he := Nat.eq_of_beq_eq_true h2
      obtain ⟨cs, y, h3, h4⟩ := Lq hok hx hb
      simp only [jf, hb, hch] at h3
      exact ⟨ch.body, _, by rw [hch, ← he], h4, r7 h3, by simp only [Ctx.named, hb]⟩
    · cases h2
  · cases h
theorem aam {n : Nat} {ad : Option Addr} (h : DS bd n = true) : (R.named F' U' bd (dI s.chunks x)).own n 0 (.slice ad 0 0) := by
  unfold DS at h
  split at h
  · rename_i hb
    obtain ⟨cs, y, h3, h4⟩ := Lq hok hx hb
    simp only [jf, hb] at h3
    cases cs <;> simp only [J6] at h3 <;> try (cases h3; done)
    case row t =>
      cases hz : Nat.blt 0 t.size
      · rw [hz] at h3; cases h3
      · rw [hz] at h3
        cases h3
        refine ⟨_, h4, Nat.le_refl _, fun _ => ⟨_, h4, Nat.le_refl _, fun _ => ?_⟩⟩
        refine ⟨rfl, Nat.le_refl _, ad, 0, rfl, Nat.le_refl _, ?_⟩
        simp only [Ctx.named, hb]
  · cases h
include hR
theorem ap4 {n c e : Nat} {v : Value} (h : yK bd st.hp n c e = true) (hv : R.own c e v) : (R.named F' U' bd (dI s.chunks x)).own n 0 v := by
  obtain ⟨b, b', h1, h2, h3, h4⟩ := J4 (R := R) hok hx h
  obtain ⟨h5, h6, ad, cap, h7, h8, h9⟩ := Ctx.du (b := b) (by rw [hR]; exact h1) (Ctx.cT (by rw [hR]; exact h1) hv)
  refine ⟨_, h2, Nat.le_refl _, fun _ => ⟨_, h2, Nat.le_refl _, fun _ => ?_⟩⟩
  rw [h4]
  simp only [h3]
  exact ⟨h5, h6, ad, cap, h7, h8, h9⟩
theorem RS {n c e i off : Nat} {v : Value} (h : yK bd st.hp n c e = true) (hv : R.ptr c e i off v) : (R.named F' U' bd (dI s.chunks x)).ptr n 0 i off v := by
  obtain ⟨b, b', h1, h2, h3, h4⟩ := J4 (R := R) hok hx h
  obtain ⟨ch, g1, g2, g3⟩ := hv
  rw [hR, h1] at g1
  cases g1
  obtain ⟨L, g4, g5⟩ := g3 rfl
  refine ⟨_, h2, Nat.le_refl _, fun _ => ⟨L, by rw [h4]; exact g4, ?_⟩⟩
  simp only [h3]
  exact g5
theorem Xm : ∀ (ns : List Nat) (caps : List SV) (us : List Value), tH bd st.hp ns caps = true → SV.bQ R caps us → SV.bQ (R.named F' U' bd (dI s.chunks x)) (ns.map fun n => .ptr n 0 0 0) us
  | [], [], us, _, h => h
  | [], _ :: _, _, h, _ => by cases h
  | n :: ns, [], _, h, _ => by cases h
  | n :: ns, y :: r, us, h, hr => by
    cases y <;> simp only [tH] at h <;> try (cases h; done)
    case ptr c e i off =>
      simp only [Bool.and_eq_true] at h
      obtain ⟨⟨⟨h1, h2⟩, h3⟩, h4⟩ := h
      have e1 := Nat.eq_of_beq_eq_true h2
      have e2 := Nat.eq_of_beq_eq_true h3
      subst e1 e2
      simp only [SV.bQ] at hr
      obtain ⟨v, us', rfl, hv, hr⟩ := hr
      simp only [SV.rel] at hv
      simp only [List.map_cons, SV.bQ]
      exact ⟨v, us', rfl, by simp only [SV.rel]; exact ⟨hv.1, RS hok hx hR h1 hv.2⟩, Xm ns r us' h4 hr⟩
theorem yh {w : World} (hm : dj R w) (hF : ∀ b o, R.F b = some o → F' b = some o) (hok' : ∀ c ch L, ok c = true → R.hp c = some ch → R.σ c = some L → F' L.block = w.heap[L.block]?) {sh : Sh} {cs : List SV} {y : sh.T} {us : List Value} (h : oQ bd ok st.hp sh cs = some y) (hr : SV.bQ R cs us) : SV.bQ (R.named F' U' bd (dI s.chunks x)) (pb sh y) us := by
  cases sh <;> simp only [oQ] at h
  case val b t =>
    rw [← hR] at h
    exact fb t y us (uF hm hF hok' t cs y us h hr)
  case own n =>
    replace h := hZ h
    obtain ⟨z, rfl⟩ := fU h
    obtain ⟨v, rfl, hv⟩ := cm hr
    cases z <;> simp only [kG, Bool.false_eq_true] at h
    case own c e =>
      simp only [SV.rel] at hv
      exact aY (by simp only [SV.rel]; exact ⟨hv.1, ap4 hok hx hR h hv.2⟩)
    case emp =>
      simp only [SV.rel] at hv
      obtain ⟨ad, rfl⟩ := hv
      exact aY (by simp only [SV.rel]; exact ⟨rfl, aam hok hx h⟩)
  case ptr n i off =>
    replace h := hZ h
    obtain ⟨z, rfl⟩ := fU h
    obtain ⟨v, rfl, hv⟩ := cm hr
    cases z <;> simp only [kG, Bool.false_eq_true, Bool.and_eq_true] at h
    case ptr c e i' off' =>
      obtain ⟨⟨h1, h2⟩, h3⟩ := h
      have e1 := Nat.eq_of_beq_eq_true h2
      have e2 := Nat.eq_of_beq_eq_true h3
      subst e1 e2
      simp only [SV.rel] at hv
      exact aY (by simp only [SV.rel]; exact ⟨hv.1, RS hok hx hR h1 hv.2⟩)
  case fn f ns =>
    replace h := hZ h
    obtain ⟨z, rfl⟩ := fU h
    obtain ⟨v, rfl, hv⟩ := cm hr
    cases z <;> try (simp only [kG, Bool.false_eq_true] at h; done)
    case fn g first caps =>
      cases g with
      | func f' =>
        cases first with
        | nil =>
          simp only [kG, Bool.and_eq_true] at h
          have e1 := Nat.eq_of_beq_eq_true h.1
          subst e1
          simp only [SV.rel] at hv
          obtain ⟨l1, l2, rfl, h3, h4⟩ := hv
          exact aY (by simp only [SV.rel]; exact ⟨l1, l2, rfl, h3, Xm hok hx hR ns _ l2 h.2 h4⟩)
        | cons a b => simp [kG] at h
      | _ => simp [kG] at h
  case ifp t n =>
    replace h := hZ h
    obtain ⟨z, rfl⟩ := fU h
    obtain ⟨v, rfl, hv⟩ := cm hr
    cases z <;> try (simp only [kG, Bool.false_eq_true] at h; done)
    case iface t' q =>
      cases q <;> try (simp only [kG, Bool.false_eq_true] at h; done)
      case ptr c e i off =>
        simp only [kG, Bool.and_eq_true] at h
        obtain ⟨h0, h1, h2, h3⟩ := h
        have e0 := Nat.eq_of_beq_eq_true h0
        have e1 := Nat.eq_of_beq_eq_true h2
        have e2 := Nat.eq_of_beq_eq_true h3
        subst e0 e1 e2
        simp only [SV.rel] at hv
        obtain ⟨y, rfl, hy⟩ := hv
        exact aY (by simp only [SV.rel]; exact ⟨y, rfl, hy.1, RS hok hx hR h1 hy.2⟩)
  all_goals (
    replace h := hZ h
    obtain ⟨z, rfl⟩ := fU h
    obtain ⟨v, rfl, hv⟩ := cm hr
    cases z <;> simp only [kG, Bool.false_eq_true] at h
    simp only [SV.rel] at hv
    exact aY (by simp only [SV.rel]; exact hv))
theorem Ac {w : World} (hm : dj R w) (hF : ∀ b o, R.F b = some o → F' b = some o) (hok' : ∀ c ch L, ok c = true → R.hp c = some ch → R.σ c = some L → F' L.block = w.heap[L.block]?) : ∀ {l : List Sh} {cs : List SV} {y : ShT l} {us : List Value}, kQ bd ok st.hp l cs = some y → SV.bQ R cs us → SV.bQ (R.named F' U' bd (dI s.chunks x)) (jp l y) us
  | [], [], _, _, _, hr => hr
  | [], _ :: _, _, _, h, _ => by cases h
  | sh :: r, cs, y, us, h, hr => by
    obtain ⟨h1, h2⟩ := bC h
    have r1 := yh (U' := U') hok hx hR hm hF hok' h1 (SV.ec hr sh.size)
    have r2 := Ac hm hF hok' h2 (SV.ee hr sh.size)
    have := SV.cB r1 r2
    rwa [List.take_append_drop] at this
theorem RY {w : World} (hm : dj R w) (hF : ∀ b o, R.F b = some o → F' b = some o) (hok' : ∀ c ch L, ok c = true → R.hp c = some ch → R.σ c = some L → F' L.block = w.heap[L.block]?) {sh : Sh} {z : SV} {y : sh.T} {v : Value} (h : yg bd ok st.hp sh z = some y) (hr : SV.rel R z v) : SV.rel (R.named F' U' bd (dI s.chunks x)) (pa sh y) v := by
  unfold yg at h
  unfold pa
  cases ha : sh.agg <;> rw [ha] at h
  · have h1 := yh (U' := U') hok hx hR hm hF hok' h (aY hr)
    simp only [n5, Bool.false_eq_true, if_false]
    cases hc : pb sh y with
    | nil => rw [hc] at h1; simp only [SV.bQ] at h1; cases h1
    | cons u l =>
      rw [hc] at h1
      simp only [SV.bQ] at h1
      obtain ⟨v', r, he, h2, _⟩ := h1
      cases he
      exact h2
  · cases z <;> simp only [Ml] at h <;> try (cases h; done)
    case agg l =>
      simp only [SV.rel] at hr
      obtain ⟨vs, rfl, h1, h2⟩ := hr
      exact vq (yh hok hx hR hm hF hok' h h1) h2
theorem kP {w : World} (hm : dj R w) (hF : ∀ b o, R.F b = some o → F' b = some o) (hok' : ∀ c ch L, ok c = true → R.hp c = some ch → R.σ c = some L → F' L.block = w.heap[L.block]?) {tmps : List Value} (ht : SV.bQ R st.tm tmps) : ∀ {l : List (Nat × Sh)} {y : SlT l} {tm : List SV}, qO bd ok st.hp st.tm l = some y →
    SV.bQ (R.named F' U' bd (dI s.chunks x)) tm tmps → SV.bQ (R.named F' U' bd (dI s.chunks x)) (eM l y tm) tmps
  | [], _, _, _, h => h
  | c :: r, y, tm, h, htm => by
    obtain ⟨h1, h2⟩ := bC h
    simp only [eM]
    refine kP hm hF hok' ht h2 ?_
    by_cases hc : c.1 < st.tm.length
    · have hl := SV.aQ ht
      have hc' : c.1 < tmps.length := by omega
      have hv := SV.kJ ht c.1 hc hc'
      have hg : st.tm.getD c.1 .bH = st.tm[c.1] := by simp [List.getD_eq_getElem?_getD, List.getElem?_eq_getElem hc]
      rw [hg] at h1
      have h3 := SV.WN htm c.1 (RY hok hx hR hm hF hok' h1 hv)
      rwa [List.set_getElem_self] at h3
    · have : tm.length = st.tm.length := by rw [← SV.aQ htm, ← SV.aQ ht]
      rw [List.set_eq_of_length_le (by omega)]
      exact htm
end
end Sx
end Go.Proofs.YtohjofabochgfaaGreat

namespace Go.Proofs.YtohjofabochgfaaGreat
namespace Sx
open Go
theorem Ab {bd : Bd} {ok : Nat → Bool} {hp : Hp} {s : CSh} {b : Chunk} {y : s.T} (h : gw bd ok hp s b = some y) : (bI s y).mut = b.mut := by
  cases s <;> cases b <;> simp only [gw] at h <;> first | (cases h; done) | rfl
theorem jx : ∀ {bd : Bd} {n : Nat} {o : Option Nat}, cX bd n = some o → (n, o) ∈ bd
  | [], _, _, h => by cases h
  | (m, o') :: r, n, o, h => by
    simp only [cX] at h
    cases hb : Nat.beq m n
    · rw [hb] at h
      exact List.mem_cons_of_mem _ (jx h)
    · rw [hb] at h
      have := Nat.eq_of_beq_eq_true hb
      subst this
      cases h
      simp
theorem H2 {l : Bool} {bd : Bd} {n c : Nat} (h : cX bd n = some (some c)) : ph l bd c = false := by
  have hm := jx h
  unfold ph
  have : bd.any (aqq c) = true := List.any_eq_true.2 ⟨_, hm, by simp [aqq]⟩
  rw [this]
  cases l <;> rfl
open Classical in
noncomputable def Ctx.frozen (R : Ctx) (w : World) (ok : Nat → Bool) : Nat → Option Obj := fun b =>
  if ∃ c ch L, ok c = true ∧ R.hp c = some ch ∧ R.σ c = some L ∧ L.block = b then w.heap[b]? else R.F b
theorem KF {R : Ctx} {w : World} (hm : dj R w) (ok : Nat → Bool) : ∀ b o, R.F b = some o → R.frozen w ok b = some o := fun b o h => by
  unfold Ctx.frozen
  split
  · exact hm.F b o h
  · exact h
theorem SS {R : Ctx} {w : World} (hm : dj R w) (ok : Nat → Bool) : ∀ b o, R.frozen w ok b = some o → w.heap[b]? = some o := fun b o h => by
  unfold Ctx.frozen at h
  split at h
  · exact h
  · exact hm.F b o h
theorem OI {R : Ctx} (w : World) (ok : Nat → Bool) : ∀ c ch L, ok c = true → R.hp c = some ch → R.σ c = some L → R.frozen w ok L.block = w.heap[L.block]? := fun c ch L h1 h2 h3 => by
  unfold Ctx.frozen
  rw [if_pos ⟨c, ch, L, h1, h2, h3, rfl⟩]
theorem dE {R : Ctx} {w : World} (hm : dj R w) {c : Nat} {ch : Ch} {L : Loc} (hc : R.hp c = some ch) (hσ : R.σ c = some L) :
    (ch.body.mut = true → R.F L.block = none ∧ R.U L.block = none) ∧ (ch.body.mut = false → ∃ o, R.F L.block = some o) := by
  have h := hm.ch c ch hc
  obtain ⟨ep, body⟩ := ch
  cases body with
  | row t xs =>
    simp only [fm, hσ] at h
    exact ⟨fun _ => ⟨h.2.2.1, h.2.2.2.1⟩, fun e => (by cases e)⟩
  | frz t xs =>
    simp only [fm, hσ] at h
    obtain ⟨_, _, arr, E, fz, h1, _⟩ := h
    exact ⟨fun e => (by cases e), fun _ => ⟨_, h1⟩⟩
  | cells vs =>
    simp only [fm] at h
    obtain ⟨L', h0, h1, h2, _⟩ := h
    rw [hσ] at h0
    cases h0
    exact ⟨fun _ => ⟨h1, h2⟩, fun e => (by cases e)⟩
theorem amb {R : Ctx} {w : World} (hm : dj R w) (ok : Nat → Bool) : ∀ b o, R.frozen w ok b = some o → R.U b = none := fun b o h => by
  unfold Ctx.frozen at h
  split at h
  · rename_i hq
    obtain ⟨c, ch, L, h1, h2, h3, rfl⟩ := hq
    obtain ⟨k1, k2⟩ := dE hm h2 h3
    cases hmu : ch.body.mut
    · obtain ⟨o', ho⟩ := k2 hmu
      exact hm.FU _ o' ho
    · exact (k1 hmu).2
  · exact hm.FU b o h
theorem aaV {R : Ctx} {w : World} (hm : dj R w) {ok : Nat → Bool} {c : Nat} {ch : Ch} {L : Loc} (hc : R.hp c = some ch) (hσ : R.σ c = some L) (hmu : ch.body.mut = true) (hn : ok c = false) : R.frozen w ok L.block = none := by
  unfold Ctx.frozen
  split
  · rename_i hq
    obtain ⟨c', ch', L', h1, h2, h3, h4⟩ := hq
    cases hm' : ch'.body.mut
    · obtain ⟨o', ho⟩ := (dE hm h2 h3).2 hm'
      rw [h4, ((dE hm hc hσ).1 hmu).1] at ho
      cases ho
    · have := hm.apart c' c ch' ch L' L h2 hc hm' hmu h3 hσ h4
      rw [this, hn] at h1
      cases h1
  · exact ((dE hm hc hσ).1 hmu).1
section
variable {s : Shape} {R : Ctx} {st : St} {bd : Bd} {x : Ga s.chunks} (hok : s.Gb st bd = true) (hx : dL bd (ph s.lists bd) st.hp s.chunks = some x) (hR : R.hp = st.hp)
  {w : World} (hm : dj R w) {F' : Nat → Option Obj} {U' : P0} (hF : ∀ b o, R.F b = some o → F' b = some o)
  (hok' : ∀ c ch L, ph s.lists bd c = true → R.hp c = some ch → R.σ c = some L → F' L.block = w.heap[L.block]?)
  (hmut : ∀ n c ch L, cX bd n = some (some c) → R.hp c = some ch → ch.body.mut = true → R.σ c = some L → F' L.block = none ∧ U' L.block = none)
include hok hx hR hm hF hok' hmut
theorem ahK {n c : Nat} {cs : CSh} {y : cs.T} {ch : Ch} (hb : cX bd n = some (some c)) (hc : R.hp c = some ch) (h : gw bd (ph s.lists bd) st.hp cs ch.body = some y) :
    fm (R.named F' U' bd (dI s.chunks x)) w n ⟨cs.ep, bI cs y⟩ := by
  have h0 := hm.ch c ch hc
  have hσ : (R.named F' U' bd (dI s.chunks x)).σ n = R.σ c := by simp only [Ctx.named, hb]
  obtain ⟨ep, body⟩ := ch
  cases cs <;> cases body <;> simp only [gw] at h <;> try (cases h; done)
  case row.row t t' xs =>
    obtain ⟨e, rfl⟩ := be h
    subst e
    simp only [fm, bI] at h0 ⊢
    rw [hσ]
    refine ⟨h0.1, h0.2.1, ?_⟩
    cases hL : R.σ c with
    | none => have := h0.2.2; rw [hL] at this; exact this
    | some L =>
      have := h0.2.2
      rw [hL] at this
      obtain ⟨c1, c2, arr, E, c3, c4, c5, c6⟩ := this
      exact ⟨(hmut n c _ L hb hc rfl hL).1, (hmut n c _ L hb hc rfl hL).2, arr, E, c3, c4, c5, fun i hi => bZ hF _ _ _ (c6 i hi)⟩
  case frz.frz t t' xs =>
    obtain ⟨e, rfl⟩ := be h
    subst e
    simp only [fm, bI] at h0 ⊢
    rw [hσ]
    refine ⟨h0.1, h0.2.1, ?_⟩
    cases hL : R.σ c with
    | none => have := h0.2.2; rw [hL] at this; exact this
    | some L =>
      have := h0.2.2
      rw [hL] at this
      obtain ⟨arr, E, fz, c3, c4, c5, c6⟩ := this
      exact ⟨arr, E, fz, hF _ _ c3, c4, c5, fun i hi => bZ hF _ _ _ (c6 i hi)⟩
  case cells.cells l vs =>
    simp only [fm, bI] at h0 ⊢
    obtain ⟨L, h1, h2, h3, arr, E, h4, h5, h6, h7, h8⟩ := h0
    exact ⟨L, by rw [hσ]; exact h1, (hmut n c _ L hb hc rfl h1).1, (hmut n c _ L hb hc rfl h1).2, arr, E, h4, h5, by rw [j5 h]; exact h6, Ac hok hx hR hm hF hok' h h7, h8⟩
theorem J9 (KC : ∀ b o, F' b = some o → w.heap[b]? = some o) (heapU : ∀ b o, U' b = some o → w.heap[b]? = some o) (hFU : ∀ b o, F' b = some o → U' b = none) (henv : T1 U'.env w) : dj (R.named F' U' bd (dI s.chunks x)) w := by
  refine ⟨KC, heapU, fun n ch hn => ?_, fun n n' ch ch' L L' h1 h2 m1 m2 s1 s2 hbl => ?_, hFU, henv⟩
  · obtain ⟨cs, y, hmem, hp, rfl⟩ := dP hx (hn : dI s.chunks x n = some ch)
    unfold jf at hp
    split at hp
    · rename_i c hb
      split at hp
      · rename_i ch hc
        exact ahK hok hx hR hm hF hok' hmut hb (by rw [hR]; exact hc) hp
      · cases hp
    · rename_i hb
      cases cs <;> simp only [J6] at hp <;> try (cases hp; done)
      case row t =>
        cases hz : Nat.blt 0 t.size
        · rw [hz] at hp; cases hp
        · rw [hz] at hp
          cases hp
          have hσ : (R.named F' U' bd (dI s.chunks x)).σ n = none := by simp only [Ctx.named, hb]
          simp only [fm, bI]
          rw [hσ]
          exact ⟨cL hz, by simp, trivial⟩
    · rename_i hb
      cases cs <;> simp only [DX] at hp <;> try (cases hp; done)
      have hσ : (R.named F' U' bd (dI s.chunks x)).σ n = none := by simp only [Ctx.named, hb]
      simp only [fm, bI]
      rw [hσ]
      exact ⟨by decide, by simp, trivial⟩
  · have key : ∀ (n : Nat) (ch : Ch) (L : Loc), (R.named F' U' bd (dI s.chunks x)).hp n = some ch → ch.body.mut = true → (R.named F' U' bd (dI s.chunks x)).σ n = some L →
        ∃ c ch₀ cs, (n, cs) ∈ s.chunks ∧ cX bd n = some (some c) ∧ R.hp c = some ch₀ ∧ ch₀.body.mut = true ∧ R.σ c = some L := fun n ch L h m hs => by
      obtain ⟨cs, y, hmem, hp, rfl⟩ := dP hx (h : dI s.chunks x n = some ch)
      unfold jf at hp
      simp only [Ctx.named] at hs
      split at hp
      · rename_i c hb
        rw [hb] at hs
        split at hp
        · rename_i ch hc
          exact ⟨c, ch, cs, hmem, hb, by rw [hR]; exact hc, by rw [← Ab hp]; exact m, hs⟩
        · cases hp
      · rename_i hb
        rw [hb] at hs
        cases hs
      · rename_i hb
        rw [hb] at hs
        cases hs
    obtain ⟨c, c₀, cs, a1, a2, a3, a4, a5⟩ := key n ch L h1 m1 s1
    obtain ⟨c', c₀', cs', b1, b2, b3, b4, b5⟩ := key n' ch' L' h2 m2 s2
    have hcc := hm.apart c c' c₀ c₀' L L' a3 b3 a4 b4 a5 b5 hbl
    subst hcc
    unfold Shape.Gb at hok
    simp only [Bool.and_eq_true, List.all_eq_true] at hok
    have h3 := hok.1.1.2 _ a1 _ b1
    simp only [a2, b2, Bool.or_eq_true, Nat.beq_refl, Bool.not_true, Bool.false_eq_true, or_false] at h3
    exact Nat.eq_of_beq_eq_true h3
end
def Small (R : Ctx) (k : Nat) : Prop := ∀ c ch, R.hp c = some ch → c < k ∧ ch.ep = 0
theorem Shape.auj {s : Shape} {R₀ R : Ctx} {st : St} {a : Act} {w : World} {x : s.T} (h0 : Small R₀ s.fixed) (hx : R₀.Ext R) (h : se R st a w) (hp : s.prj st = some x) :
    ∃ R', R₀.Ext R' ∧ se R' (s.inj x) a w := by
  unfold Shape.prj at hp
  dsimp only at hp
  cases hb : s.Gb st (s.bd st) && Nat.beq st.tm.length s.n
  · rw [hb] at hp; cases hp
  · rw [hb] at hp
    rw [Bool.and_eq_true] at hb
    obtain ⟨h1, h2⟩ := bC hp
    have hlen := Nat.eq_of_beq_eq_true hb.2
    refine ⟨R.named (R.frozen w (ph s.lists (s.bd st))) R.U (s.bd st) (dI s.chunks x.2), ⟨fun b o h' => KF h.mem _ b o (hx.F b o h'), hx.U, fun c ch hc => ?_⟩, rfl, J9 hb.1 h2 h.hp h.mem (KF h.mem _) (OI w _) (fun n c ch L k1 k2 k3 k4 => ⟨aaV h.mem k2 k4 k3 (H2 k1), ((dE h.mem k2 k4).1 k3).2⟩) (SS h.mem _) h.mem.U (amb h.mem _) h.mem.env, ?_, h.defers⟩
    · obtain ⟨hlt, hep⟩ := h0 c ch hc
      have hok := hb.1
      unfold Shape.Gb at hok
      simp only [Bool.and_eq_true, List.all_eq_true] at hok
      have h3 := hok.2 c (by simpa using hlt)
      obtain ⟨ch1, g1, g2, g3⟩ := hx.ch c ch hc
      split at h3
      · rename_i c' hbd
        have h4 := (Bool.and_eq_true _ _ ▸ h3 : _ ∧ _)
        have := Nat.eq_of_beq_eq_true h4.1
        subst this
        have hnow : yK (s.bd st) st.hp c' c' 0 = true := by
          unfold yK
          rw [hbd]
          exact h3
        obtain ⟨b, b', k1, k2, k3, k4⟩ := J4 (R := R) hb.1 h2 hnow
        rw [h.hp, k1] at g1
        cases g1
        exact ⟨_, k2, g2, fun he => ⟨by have := (g3 he).1; exact k3.trans this, k4.trans (g3 he).2⟩⟩
      · cases h3
      · rename_i hbd
        obtain ⟨q, hq, hq'⟩ := List.any_eq_true.1 h3
        rw [Bool.and_eq_true] at hq'
        have e1 := Nat.eq_of_beq_eq_true hq'.1
        obtain ⟨ch2, hch2⟩ := pc (x := x.2) (n := c) ⟨q.2, by rw [← e1]; exact hq⟩
        obtain ⟨cs, y, k1, k2, k3⟩ := dP h2 hch2
        have hg : cs = .gone := by
          simp only [jf, hbd] at k2
          cases cs <;> first | rfl | (simp [DX] at k2; done)
        subst hg
        refine ⟨ch2, hch2, ?_, fun he => ?_⟩
        · rw [k3, hep]; exact Nat.zero_le _
        · rw [k3, hep] at he; cases he
    · refine kP hb.1 h2 h.hp h.mem (KF h.mem _) (OI w _) h.tm h1 (SV.xp ?_ fun i hi hi' => ?_)
      · rw [List.length_replicate, ← hlen]
        exact SV.aQ h.tm
      · simp [SV.rel]
end Sx
end Go.Proofs.YtohjofabochgfaaGreat

namespace Go.Proofs.YtohjofabochgfaaGreat
namespace Sx
open Go
def ahh (id : Nat) : SE → SE
  | .exit j => cond (Nat.beq j id) .normal (.exit j)
  | e => e
theorem Shape.J3 {s : Shape} {R₀ R : Ctx} {st : St} {a : Act} {w : World} {k : s.T → Prop} (h0 : Small R₀ s.fixed) (hx : R₀.Ext R) (h : se R st a w) (hp : s.on st k) :
    ∃ x R', k x ∧ R₀.Ext R' ∧ se R' (s.inj x) a w := by
  unfold Shape.on at hp
  split at hp
  · rename_i x hq
    obtain ⟨R', h1, h2⟩ := Shape.auj h0 hx h hq
    exact ⟨x, R', hp, h1, h2⟩
  · exact hp.elim
section
variable {P : Program} {te : TE} {Φ : Env} (hte : lv P te) (hΦ : aV P Φ) (hany : aZ P te Φ)
include hte hΦ hany
end
def YX : List (Nat × Code) → Nat → Code
  | [], _ => .skip
  | (i, c) :: r, id => cond (Nat.beq i id) c (YX r id)
def YW (c : Code) (id : Nat) : Code := YX (blocks c) id
def bF (c : Code) (id : Nat) : Code := match YW c id with
  | .loop b => b
  | c => c
def agp (c : Code) (id : Nat) : Bool := match YW c id with
  | .loop _ => true
  | _ => false
theorem SI {c : Code} {id : Nat} (h : agp c id = true) : YW c id = .loop (bF c id) := by
  unfold agp at h
  unfold bF
  split at h
  · rename_i b hb
    rw [hb]
  · cases h
theorem Iw : ∀ {l : List (Nat × Code)}, distinct (l.map (·.1)) = true → ∀ p ∈ l, YX l p.1 = p.2
  | [], _, p, hp => by cases hp
  | q :: r, h, p, hp => by
    simp only [List.map_cons, distinct, Bool.and_eq_true, Bool.not_eq_true'] at h
    simp only [YX]
    rcases List.mem_cons.1 hp with he | he
    · subst he
      rw [Nat.beq_refl]; rfl
    · have : Nat.beq q.1 p.1 = false := by
        cases hq : Nat.beq q.1 p.1
        · rfl
        · have := h.1
          rw [List.any_eq_false] at this
          exact absurd hq (this p.1 (List.mem_map.2 ⟨p, he, rfl⟩))
      rw [this]
      exact Iw h.2 p he
def bg (id : Nat) (l : St → (SE → St → Prop) → Prop) (Λ : Lam) : Lam := fun j => cond (Nat.beq j id) (some l) (Λ j)
def ay : Lam := fun _ => none
theorem af {P : Program} {R₀ : Ctx} {c : Code} : EY P R₀ ay c := fun _ _ _ h => by cases h
theorem aF {P : Program} {R₀ : Ctx} {c : Code} (hd : distinct ((blocks c).map (·.1)) = true) {id : Nat} {l : St → (SE → St → Prop) → Prop} {Λ : Lam} (hl : agp c id = true) (h : LV P R₀ (.block id (.loop (bF c id))) l) (hΛ : EY P R₀ Λ c) :
    EY P R₀ (bg id l Λ) c := fun p hp l' hl' => by
  unfold bg at hl'
  cases hb : Nat.beq p.1 id
  · rw [hb] at hl'; exact hΛ p hp l' hl'
  · rw [hb] at hl'
    cases hl'
    have e := Nat.eq_of_beq_eq_true hb
    have := Iw hd p hp
    rw [← this, e]
    have h2 := SI hl
    unfold YW at h2
    rw [h2]
    exact h
end Sx
end Go.Proofs.YtohjofabochgfaaGreat

namespace Go.Proofs.YtohjofabochgfaaGreat
namespace Sx
open Go
abbrev Nm := Nat → Nat × Nat
def yL (ν : Nm) : (s : Sh) → s.T → List SV
  | .val _ t, x => unpack t x
  | .own n, _ => [.own (ν n).1 (ν n).2]
  | .ptr n i off, _ => [.ptr (ν n).1 (ν n).2 i off]
  | .fn f ns, _ => [.fn (.func f) [] (ns.map fun n => .ptr (ν n).1 (ν n).2 0 0)]
  | .ifp t n, _ => [.iface t (.ptr (ν n).1 (ν n).2 0 0)]
  | .nQ, _ => [.nQ]
  | .dF, _ => [.dF]
  | .undef, _ => [.undef]
def Kz (ν : Nm) (s : Sh) (x : s.T) : SV := n5 s.agg (yL ν s x)
def mf (ν : Nm) : (l : List Sh) → ShT l → List SV
  | [], _ => []
  | s :: r, x => yL ν s x.1 ++ mf ν r x.2
def dA (ν : Nm) : (s : CSh) → s.T → Chunk
  | .row t, xs => .row t xs
  | .frz t, xs => .frz t xs
  | .cells l, x => .cells (mf ν l x)
  | .gone, _ => .row .u8 []
structure az where
  rs : List Sh
  chunks : List (Nat × CSh)
  pan : Bool
def indexed : Nat → List Sh → List (Nat × Sh)
  | _, [] => []
  | i, s :: r => (i, s) :: indexed (i + 1) r
def az.shape (o : az) (fixed : Nat) : Shape := ⟨o.rs.length, indexed 0 o.rs, o.chunks, fixed, true⟩
def aek (n : Nat) (v : SV) : List SV := cond (Nat.beq n 1) [v] (match v with
  | .tup l => l
  | _ => List.replicate (n + 1) .bH)
structure av where
  as : List Sh
  chunks : List (Nat × CSh)
  bJ : Bool
  fixed : Nat
  mod : Bool
def av.inp (S : av) : Shape := ⟨S.as.length, indexed 0 S.as, S.chunks, 0, S.bJ⟩
abbrev av.T (S : av) : Type := S.inp.T
abbrev av.Y (S : av) : Type := Sigma fun o : az => (o.shape S.fixed).T
def YD (hp : Hp) (c : Nat) : Nat := match hp c with
  | some ch => ch.ep
  | none => 0
def nameOf (bd : Bd) (n : Nat) : Nat := match cX bd n with
  | some (some c) => c
  | _ => 0
def av.nm (S : av) (bd : Bd) (hp : Hp) (base : Nat) : Nm := fun n => cond (Nat.blt n S.fixed) (nameOf bd n, YD hp (nameOf bd n)) (base + (n - S.fixed), 0)
def jA (ν : Nm) : (l : List (Nat × CSh)) → Ga l → List (Nat × Ch)
  | [], _ => []
  | c :: r, x => ((ν c.1).1, ⟨(ν c.1).2, dA ν c.2 x.1⟩) :: jA ν r x.2
def cR (bd : Bd) (hp : Hp) (fixed : Nat) : List (Nat × CSh) → List (Nat × Ch)
  | [] => []
  | c :: r => cond (Nat.blt c.1 fixed) (cR bd hp fixed r) (match cX bd c.1 with
    | some (some o) => (o, ⟨YD hp o + 1, .row .u8 []⟩) :: cR bd hp fixed r
    | _ => cR bd hp fixed r)
def Ty.cD : Ty → Bool
  | .list _ => true
  | .prod a b => a.cD || b.cD
  | .arr _ t => t.cD
  | _ => false
def Sh.cD : Sh → Bool
  | .val _ t => t.cD
  | _ => false
def CSh.cD : CSh → Bool
  | .row t => t.cD
  | .frz t => t.cD
  | .cells l => l.any Sh.cD
  | .gone => false
def CSh.Ou : CSh → Bool
  | .frz _ => true
  | _ => false
def av.tu (S : av) (bd : Bd) (hp : Hp) (base : Nat) (o : az) : Bool :=
  (!S.bJ || !(o.rs.any Sh.cD || o.chunks.any fun c => c.2.cD || (c.2.Ou && !Nat.blt c.1 S.fixed))) &&
  ((List.range S.fixed).all (fun k => (match cX bd k with
    | some (some _) => true
    | _ => false) && o.chunks.any fun c => Nat.beq c.1 k) &&
  ((o.chunks.all fun c => S.chunks.all fun c' => !Nat.beq c.1 c'.1 || !Nat.blt c.1 S.fixed || (c.2.Ou == c'.2.Ou)) &&
  o.chunks.all fun c => !c.2.vv && (Nat.blt c.1 S.fixed || (Nat.blt (c.1 - S.fixed) 64 && (hp (base + (c.1 - S.fixed))).isNone))))
def av.emit (S : av) (bd : Bd) (d : Nat) (hp : Hp) (o : az) (y : (o.shape S.fixed).T) : OT Out :=
  let base := fresh hp d
  let ν := S.nm bd hp base
  let v := oneOf ((indexedN ν o.rs) y.1)
  let u := cR bd hp S.fixed S.chunks ++ jA ν o.chunks y.2
  .guard (S.tu bd hp base o) (.ok (cond o.pan (.pan v u) (.ret ⟨v, u⟩)))
where
  indexedN (ν : Nm) (rs : List Sh) : SlT (indexed 0 rs) → List SV := go ν 0 rs
  go (ν : Nm) : (i : Nat) → (rs : List Sh) → SlT (indexed i rs) → List SV
    | _, [], _ => []
    | i, s :: r, y => Kz ν s y.1 :: go ν (i + 1) r y.2
def av.aH (S : av) (pre : S.T → Bool) (F : S.T → OT S.Y) : cG := ⟨S.mod, fun d args hp =>
  match S.inp.prj ⟨args, hp⟩ with
  | none => .fail
  | some x => .guard (pre x) ((F x).bind fun oy => S.emit (S.inp.bd ⟨args, hp⟩) d hp oy.1 oy.2)⟩
def az.is {fixed : Nat} (o : az) (y : (o.shape fixed).T) (pan : Bool) (v : SV) (hp : Hp) : Prop :=
  o.pan = pan ∧ (o.shape fixed).prj ⟨aek o.rs.length v, hp⟩ = some y
end Sx
end Go.Proofs.YtohjofabochgfaaGreat

namespace Go.Proofs.YtohjofabochgfaaGreat
namespace Sx
open Go
def Ctx.vO (R : Ctx) (bd : Bd) (b : Nat) : Prop := ∃ n c ch L, cX bd n = some (some c) ∧ R.hp c = some ch ∧ ch.body.mut = true ∧ R.σ c = some L ∧ L.block = b
open Classical in
noncomputable def Ctx.Al (R : Ctx) (bd : Bd) (bJ : Bool) (w : World) : Nat → Option Obj := fun b =>
  if R.vO bd b then none else if bJ = true then w.heap[b]? else R.F b
open Classical in
noncomputable def Ctx.Gt (R : Ctx) (bd : Bd) (bJ : Bool) (w : World) : P0 := ⟨fun b =>
  if R.vO bd b ∨ bJ = true ∨ (∃ o, R.F b = some o) then none else w.heap[b]?, R.U.env⟩
section
variable {R : Ctx} {w : World} (hm : dj R w) {bd : Bd} {bJ : Bool}
include hm
theorem za {b : Nat} (h : R.vO bd b) : R.F b = none ∧ R.U b = none := by
  obtain ⟨n, c, ch, L, h1, h2, h3, h4, rfl⟩ := h
  exact (dE hm h2 h4).1 h3
theorem Ox : ∀ b o, R.F b = some o → R.Al bd bJ w b = some o := fun b o h => by
  unfold Ctx.Al
  split
  · rename_i hb
    rw [(za hm hb).1] at h
    cases h
  · split
    · exact hm.F b o h
    · exact h
theorem Ow : ∀ b o, R.Al bd bJ w b = some o → w.heap[b]? = some o := fun b o h => by
  unfold Ctx.Al at h
  split at h
  · cases h
  · split at h
    · exact h
    · exact hm.F b o h
theorem Ky : ∀ c ch L, ph bJ bd c = true → R.hp c = some ch → R.σ c = some L → R.Al bd bJ w L.block = w.heap[L.block]? := fun c ch L h1 h2 h3 => by
  have hb : bJ = true := by
    unfold ph at h1
    rw [Bool.and_eq_true] at h1
    exact h1.1
  unfold Ctx.Al
  split
  · rename_i hq
    obtain ⟨n, c', ch', L', k1, k2, k3, k4, k5⟩ := hq
    cases hmu : ch.body.mut
    · obtain ⟨o, ho⟩ := (dE hm h2 h3).2 hmu
      rw [← k5, ((dE hm k2 k4).1 k3).1] at ho
      cases ho
    · have := hm.apart c' c ch' ch L' L k2 h2 k3 hmu k4 h3 k5
      rw [this] at k1
      rw [H2 k1] at h1
      cases h1
  · first | rfl | rw [if_pos hb]
omit hm in
theorem Ov : ∀ b o, R.Gt bd bJ w b = some o → w.heap[b]? = some o := fun b o h => by
  unfold Ctx.Gt at h
  dsimp only at h
  split at h
  · cases h
  · exact h
omit hm in
theorem ant : ∀ b o, R.Al bd bJ w b = some o → R.Gt bd bJ w b = none := fun b o h => by
  unfold Ctx.Gt
  dsimp only
  split
  · rfl
  · rename_i hq
    unfold Ctx.Al at h
    rw [if_neg (fun hb => hq (.inl hb)), if_neg (fun hb => hq (.inr (.inl hb)))] at h
    exact absurd (.inr (.inr ⟨o, h⟩)) hq
omit hm in
theorem agt : ∀ n c ch L, cX bd n = some (some c) → R.hp c = some ch → ch.body.mut = true → R.σ c = some L → R.Al bd bJ w L.block = none ∧ R.Gt bd bJ w L.block = none := fun n c ch L h1 h2 h3 h4 => by
  have hb : R.vO bd L.block := ⟨n, c, ch, L, h1, h2, h3, h4, rfl⟩
  exact ⟨by unfold Ctx.Al; rw [if_pos hb], by unfold Ctx.Gt; dsimp only; rw [if_pos (.inl hb)]⟩
theorem stays {F₂ : Nat → Option Obj} {U₂ : P0} {w' : World} (hF : ∀ b o, R.Al bd bJ w b = some o → F₂ b = some o) (hU : U₂ = R.Gt bd bJ w) (h1 : ∀ b o, F₂ b = some o → w'.heap[b]? = some o) (h2 : ∀ b o, U₂ b = some o → w'.heap[b]? = some o) :
    ∀ b, b < w.heap.size → ¬ R.vO bd b → w'.heap[b]? = w.heap[b]? := fun b hb hn => by
  have hs : w.heap[b]? = some w.heap[b] := by simp [hb]
  by_cases hbo : bJ = true
  · have : R.Al bd bJ w b = some w.heap[b] := by
      unfold Ctx.Al
      rw [if_neg hn, if_pos hbo, hs]
    rw [h1 _ _ (hF _ _ this), hs]
  · by_cases hRF : ∃ o, R.F b = some o
    · obtain ⟨o, ho⟩ := hRF
      have := hm.F b o ho
      rw [h1 _ _ (hF _ _ (Ox hm b o ho)), this]
    · have : R.Gt bd bJ w b = some w.heap[b] := by
        unfold Ctx.Gt
        dsimp only
        rw [if_neg (by rintro (h | h | h); exact hn h; exact hbo h; exact hRF h), hs]
      rw [← hU] at this
      rw [h2 _ _ this, hs]
end
end Sx
end Go.Proofs.YtohjofabochgfaaGreat

namespace Go.Proofs.YtohjofabochgfaaGreat
namespace Sx
open Go
structure Lx (N R : Ctx) (ν : Nm) (lists : Bool) : Prop where
  hp : ∀ n ch, N.hp n = some ch → ch.ep = 0 ∧ ∃ ch', R.hp (ν n).1 = some ch' ∧ ch'.ep = (ν n).2 ∧ ch'.body.shape = ch.body.shape ∧ R.σ (ν n).1 = N.σ n
  F : lists = true → ∀ b o, N.F b = some o → R.F b = some o
theorem rF {F F' : Nat → Option Obj} : ∀ (t : Ty) (_ : t.cD = false) (x : t.T) (cs : List Value), Rep F t x cs → Rep F' t x cs
  | .bool, _, _, _, h => h
  | .u64, _, _, _, h => h
  | .u8, _, _, _, h => h
  | .int, _, _, _, h => h
  | .str, _, _, _, h => h
  | .elem, _, _, _, h => h
  | .prod a b, hp, x, cs, h => by
    simp only [Ty.cD, Bool.or_eq_false_iff] at hp
    exact ⟨h.1, rF a hp.1 _ _ h.2.1, rF b hp.2 _ _ h.2.2⟩
  | .arr n t, hp, x, cs, h => ⟨h.1, h.2.1, fun i hi => rF t hp _ _ (h.2.2 i hi)⟩
def SV.still : SV → Bool
  | .bool _ | .u64 _ | .u8 _ | .int _ | .str _ | .lst .. => true
  | _ => false
theorem Mh {R R' : Ctx} (hF : ∀ b o, R.F b = some o → R'.F b = some o) : ∀ {x : SV} {v : Value}, x.still = true → SV.rel R x v → SV.rel R' x v := by
  intro x v hf h
  cases x <;> first | (cases hf; done) | (simp only [SV.rel] at h ⊢; first | exact h | exact bZ hF _ _ _ h)
theorem GN {R R' : Ctx} (hF : ∀ b o, R.F b = some o → R'.F b = some o) : ∀ {l : List SV} {vs : List Value}, l.all SV.still = true → SV.bQ R l vs → SV.bQ R' l vs
  | [], vs, _, h => by simpa only [SV.bQ] using h
  | x :: l, vs, hf, h => by
    simp only [List.all_cons, Bool.and_eq_true] at hf
    simp only [SV.bQ] at h ⊢
    obtain ⟨v, r, h1, h2, h3⟩ := h
    exact ⟨v, r, h1, Mh hF hf.1 h2, GN hF hf.2 h3⟩
theorem iz : ∀ (t : Ty) (x : t.T), (unpack t x).all SV.still = true
  | .bool, _ => rfl
  | .u64, _ => rfl
  | .u8, _ => rfl
  | .int, _ => rfl
  | .str, _ => rfl
  | .elem, _ => rfl
  | .prod a b, x => by simp only [unpack, List.all_append, iz a, iz b, Bool.and_self]
  | .arr n t, x => by
    simp only [unpack, List.all_flatMap, List.all_eq_true]
    intro i _
    simpa [List.all_eq_true] using iz t _
  | .list t, _ => rfl
theorem eU : ∀ {t : Ty}, t.cD = false → t.plain = true
  | .bool, _ => rfl
  | .u64, _ => rfl
  | .u8, _ => rfl
  | .int, _ => rfl
  | .str, _ => rfl
  | .elem, _ => rfl
  | .prod a b, h => by
    simp only [Ty.cD, Bool.or_eq_false_iff] at h
    simp only [Ty.plain, eU h.1, eU h.2, Bool.and_self]
  | .arr n t, h => eU (t := t) h
section
variable {N R : Ctx} {ν : Nm} {lists : Bool} (hr : Lx N R ν lists)
include hr
theorem R9 {n : Nat} {v : Value} (h : N.own n 0 v) : R.own (ν n).1 (ν n).2 v := by
  obtain ⟨ch, hc, _, h⟩ := h
  obtain ⟨he, ch', k1, k2, k3, k4⟩ := hr.hp n ch hc
  obtain ⟨ch2, hc2, _, h2⟩ := h he.symm
  rw [hc] at hc2
  cases hc2
  obtain ⟨h5, h6, ad, cap, h7, h8, h9⟩ := h2 he.symm
  refine ⟨ch', k1, by omega, fun _ => ⟨ch', k1, by omega, fun _ => ?_⟩⟩
  rw [k4, k3]
  exact ⟨h5, h6, ad, cap, h7, h8, h9⟩
theorem sT {n i off : Nat} {v : Value} (h : N.ptr n 0 i off v) : R.ptr (ν n).1 (ν n).2 i off v := by
  obtain ⟨ch, hc, _, h⟩ := h
  obtain ⟨he, ch', k1, k2, k3, k4⟩ := hr.hp n ch hc
  obtain ⟨L, h1, h2⟩ := h he.symm
  exact ⟨ch', k1, by omega, fun _ => ⟨L, by rw [k4]; exact h1, by rw [k3]; exact h2⟩⟩
theorem zZ : ∀ (ns : List Nat) (us : List Value), SV.bQ N (ns.map fun n => .ptr n 0 0 0) us → SV.bQ R (ns.map fun n => .ptr (ν n).1 (ν n).2 0 0) us
  | [], us, h => h
  | n :: ns, us, h => by
    simp only [List.map_cons, SV.bQ, SV.rel] at h ⊢
    obtain ⟨v, us', rfl, h1, h2⟩ := h
    exact ⟨v, us', rfl, ⟨h1.1, sT hr h1.2⟩, zZ ns us' h2⟩
theorem Gc {t : Ty} (hl : lists = true ∨ t.cD = false) {x : t.T} {us : List Value} (h : SV.bQ N (unpack t x) us) : SV.bQ R (unpack t x) us := by
  rcases hl with hl | hl
  · exact GN (hr.F hl) (iz t x) h
  · exact OW (jC t (eU hl) x) h
theorem ta {s : Sh} (hl : lists = true ∨ s.cD = false) {y : s.T} {us : List Value} (h : SV.bQ N (pb s y) us) : SV.bQ R (yL ν s y) us := by
  cases s <;> simp only [pb, yL] at h ⊢
  case val b t => exact Gc hr hl h
  case own n =>
    obtain ⟨v, rfl, hv⟩ := cm h
    simp only [SV.rel] at hv
    exact aY (by simp only [SV.rel]; exact ⟨hv.1, R9 hr hv.2⟩)
  case ptr n i off =>
    obtain ⟨v, rfl, hv⟩ := cm h
    simp only [SV.rel] at hv
    exact aY (by simp only [SV.rel]; exact ⟨hv.1, sT hr hv.2⟩)
  case fn f ns =>
    obtain ⟨v, rfl, hv⟩ := cm h
    simp only [SV.rel] at hv
    obtain ⟨l1, l2, rfl, h3, h4⟩ := hv
    exact aY (by simp only [SV.rel]; exact ⟨l1, l2, rfl, by simpa only [SV.bQ] using h3, zZ hr ns l2 h4⟩)
  case ifp t n =>
    obtain ⟨v, rfl, hv⟩ := cm h
    simp only [SV.rel] at hv
    obtain ⟨y, rfl, hy⟩ := hv
    exact aY (by simp only [SV.rel]; exact ⟨y, rfl, hy.1, sT hr hy.2⟩)
  all_goals (
    obtain ⟨v, rfl, hv⟩ := cm h
    simp only [SV.rel] at hv
    exact aY (by simp only [SV.rel]; exact hv))
omit hr in
theorem Gu {s : Sh} {y : s.T} : (yL ν s y).length = (pb s y).length := by
  cases s <;> rfl
theorem Mk {s : Sh} (hl : lists = true ∨ s.cD = false) {y : s.T} {v : Value} (h : SV.rel N (pa s y) v) : SV.rel R (Kz ν s y) v := by
  unfold pa at h
  unfold Kz
  unfold n5 at h ⊢
  cases ha : s.agg <;> rw [ha] at h
  · simp only [Bool.false_eq_true, if_false] at h ⊢
    cases s
    case val b t =>
      simp only [pb, yL] at h ⊢
      cases hc : unpack t y with
      | nil => simp [SV.rel]
      | cons u l =>
        rw [hc] at h
        rcases hl with hl | hl
        · have := iz t y
          rw [hc] at this
          simp only [List.all_cons, Bool.and_eq_true] at this
          exact Mh (hr.F hl) this.1 h
        · have := jC t (eU hl) y
          rw [hc] at this
          simp only [List.all_cons, Bool.and_eq_true] at this
          exact Ym this.1 h
    all_goals (
      have h1 := ta (y := y) hr hl (aY h)
      obtain ⟨v', he, hv⟩ := cm h1
      cases he
      exact hv)
  · simp only [if_true, SV.rel] at h ⊢
    obtain ⟨vs, h1, h2, h3⟩ := h
    exact ⟨vs, h1, ta hr hl h2, h3⟩
end
end Sx
end Go.Proofs.YtohjofabochgfaaGreat

namespace Go.Proofs.YtohjofabochgfaaGreat
namespace Sx
open Go
theorem OT.run_bind {α β : Type} {f : α → OT β} : ∀ {t : OT α} {b : β}, (t.bind f).run = some b → ∃ a, t.run = some a ∧ (f a).run = some b
  | .ok a, b, h => ⟨a, rfl, h⟩
  | .br c x y, b, h => by
    cases c
    · exact OT.run_bind (t := y) h
    · exact OT.run_bind (t := x) h
  | .fail, b, h => by cases h
theorem oO {m : Nat} : ∀ (u : List (Nat × Ch)) {hp : Hp}, m ∈ bn u → ∃ ch, (m, ch) ∈ u ∧ fM hp u m = some ch
  | [], _, h => by simp [bn] at h
  | (c, ch) :: r, hp, h => by
    by_cases h2 : m ∈ bn r
    · obtain ⟨ch', h3, h4⟩ := oO r (hp := fun n => if n = c then some ch else hp n) h2
      exact ⟨ch', by simp [h3], h4⟩
    · have h1 : m = c := by
        simp only [bn, List.map_cons, List.mem_cons] at h
        exact h.resolve_right h2
      subst h1
      refine ⟨ch, by simp, ?_⟩
      simp only [fM]
      rw [dt r h2]
      simp
theorem um {ν : Nm} {bd : Bd} {ok : Nat → Bool} {hp : Hp} : ∀ {l : List (Nat × CSh)} {x : Ga l} {c : Nat} {ch : Ch}, dL bd ok hp l = some x → (c, ch) ∈ jA ν l x →
    ∃ n s y, (n, s) ∈ l ∧ c = (ν n).1 ∧ jf bd ok hp n s = some y ∧ ch = ⟨(ν n).2, dA ν s y⟩
  | [], _, _, _, _, h => by cases h
  | q :: r, x, c, ch, hp, h => by
    obtain ⟨h1, h2⟩ := bC hp
    simp only [jA, List.mem_cons] at h
    rcases h with h | h
    · cases h
      exact ⟨q.1, q.2, x.1, by simp, rfl, h1, rfl⟩
    · obtain ⟨n, s, y, k1, k2⟩ := um h2 h
      exact ⟨n, s, y, by simp [k1], k2⟩
theorem mM {ν : Nm} : ∀ {l : List (Nat × CSh)} {x : Ga l} {c : Nat}, c ∈ bn (jA ν l x) ↔ ∃ n s, (n, s) ∈ l ∧ c = (ν n).1
  | [], _, _ => by simp [jA, bn]
  | q :: r, x, c => by
    have ih := mM (ν := ν) (l := r) (x := x.2) (c := c)
    unfold bn at ih ⊢
    simp only [jA, List.map_cons, List.mem_cons]
    constructor
    · rintro (h | h)
      · exact ⟨q.1, q.2, .inl rfl, h⟩
      · obtain ⟨n, s, h1, h2⟩ := ih.1 h
        exact ⟨n, s, .inr h1, h2⟩
    · rintro ⟨n, s, h1 | h1, h2⟩
      · left; rw [← h1] at *; exact h2
      · exact .inr (ih.2 ⟨n, s, h1, h2⟩)
theorem jB {bd : Bd} {hp : Hp} {fixed : Nat} : ∀ {l : List (Nat × CSh)} {c : Nat} {ch : Ch}, (c, ch) ∈ cR bd hp fixed l → (∃ n, cX bd n = some (some c) ∧ fixed ≤ n) ∧ ch = ⟨YD hp c + 1, .row .u8 []⟩
  | [], _, _, h => by cases h
  | q :: r, c, ch, h => by
    simp only [cR] at h
    cases hb : Nat.blt q.1 fixed
    · rw [hb] at h
      simp only [cond_false] at h
      split at h
      · rename_i o ho
        simp only [List.mem_cons] at h
        rcases h with h | h
        · cases h
          have : ¬ q.1 < fixed := fun hlt => by rw [PF hlt] at hb; cases hb
          exact ⟨⟨q.1, ho, by omega⟩, rfl⟩
        · exact jB h
      · exact jB h
    · rw [hb] at h
      exact jB (by simpa using h)
theorem B9 {bd : Bd} {hp : Hp} {fixed : Nat} : ∀ {l : List (Nat × CSh)} {n c : Nat} {s : CSh}, (n, s) ∈ l → cX bd n = some (some c) → fixed ≤ n → c ∈ bn (cR bd hp fixed l)
  | [], _, _, _, h, _, _ => by cases h
  | q :: r, n, c, s, h, hb, hn => by
    simp only [cR]
    rcases List.mem_cons.1 h with h | h
    · subst h
      have : Nat.blt n fixed = false := by
        cases hq : Nat.blt n fixed
        · rfl
        · have := cL hq; omega
      unfold bn
      simp only [this, cond_false, hb, List.map_cons, List.mem_cons]
      exact .inl trivial
    · have ih := B9 (hp := hp) h hb hn
      cases Nat.blt q.1 fixed
      · simp only [cond_false]
        split
        · unfold bn at ih ⊢
          simp only [List.map_cons, List.mem_cons]
          exact .inr ih
        · exact ih
      · exact ih
theorem fR : ∀ (u v : List (Nat × Ch)) {hp : Hp}, fM hp (u ++ v) = fM (fM hp u) v
  | [], _, _ => rfl
  | (c, ch) :: r, v, hp => fR r v
theorem age {u : List (Nat × Ch)} {c : Nat} {ch : Ch} (h : (c, ch) ∈ u) : c ∈ bn u := List.mem_map.2 ⟨_, h, rfl⟩
theorem gM : ∀ {l : List (Nat × CSh)}, distinct (l.map (·.1)) = true → ∀ {n : Nat} {s s' : CSh}, (n, s) ∈ l → (n, s') ∈ l → s = s'
  | [], _, _, _, _, h, _ => by cases h
  | q :: r, hd, n, s, s', h, h' => by
    simp only [List.map_cons, distinct, Bool.and_eq_true, Bool.not_eq_true'] at hd
    have no : ∀ s, (n, s) ∈ r → q.1 ≠ n := fun s hs e => by
      have := hd.1
      rw [List.any_eq_false] at this
      exact this n (List.mem_map.2 ⟨_, hs, rfl⟩) (by rw [e]; exact Nat.beq_refl n)
    rcases List.mem_cons.1 h with h | h <;> rcases List.mem_cons.1 h' with h' | h'
    · rw [← h'] at h; cases h; rfl
    · exact absurd (by rw [← h]) (no s' h')
    · exact absurd (by rw [← h']) (no s h)
    · exact gM hd.2 h h'
theorem iV {ν : Nm} : ∀ {l : List Sh} {x : ShT l}, (mf ν l x).length = (jp l x).length
  | [], _ => rfl
  | s :: r, x => by simp only [mf, jp, List.length_append, Gu, iV]
theorem pd {ν : Nm} {s : CSh} {y : s.T} : (dA ν s y).shape = (bI s y).shape := by
  cases s <;> simp only [dA, bI, Chunk.shape]
  case cells l =>
    have := iV (ν := ν) (l := l) (x := y)
    rw [this]
theorem jo {ν : Nm} {s : CSh} {y : s.T} : (dA ν s y).mut = (bI s y).mut := by
  cases s <;> rfl
theorem Oy {s : CSh} {y : s.T} : (bI s y).mut = !s.Ou := by
  cases s <;> rfl
end Sx
end Go.Proofs.YtohjofabochgfaaGreat

namespace Go.Proofs.YtohjofabochgfaaGreat
namespace Sx
open Go
section
variable {R : Ctx} {w w' : World} {S : av} {args : List SV} {bd : Bd} {xc : Ga S.chunks} {N N2 : Ctx} {o : az} {yc : Ga o.chunks} {base : Nat}
def Ctx.att (N : Ctx) (k : Nat) : Ctx := { N with hp := fun n => cond (Nat.blt n k) (N.hp n) none }
structure ue (R : Ctx) (w w' : World) (S : av) (args : List SV) (bd : Bd) (xc : Ga S.chunks) (N2 : Ctx) (o : az) (yc : Ga o.chunks) (base : Nat) : Prop where
  hm : dj R w
  ok : S.inp.Gb ⟨args, R.hp⟩ bd = true
  hx : dL bd (ph S.bJ bd) R.hp S.chunks = some xc
  ext : ((R.named (R.Al bd S.bJ w) (R.Gt bd S.bJ w) bd (dI S.chunks xc)).att S.fixed).Ext N2
  hm2 : dj N2 w'
  hp2 : N2.hp = dI o.chunks yc
  atz : ∃ bd2 ok2 hp2, dL bd2 ok2 hp2 o.chunks = some yc
  aq2 : distinct (o.chunks.map (·.1)) = true
  tu : S.tu bd R.hp base o = true
open Classical in
noncomputable def Ctx.gW (R : Ctx) (bd : Bd) (w : World) (N2 : Ctx) : Nat → Option Obj := fun b =>
  if b < w.heap.size ∧ ¬ R.vO bd b then R.F b else N2.F b
open Classical in
noncomputable def Ctx.dC (R : Ctx) (bd : Bd) (w : World) (S : av) (N2 : Ctx) (o : az) (yc : Ga o.chunks) (base : Nat) : Ctx :=
  ⟨R.gW bd w N2, R.U, fun c => match o.chunks.find? (fun q => Nat.beq (S.nm bd R.hp base q.1).1 c) with
    | some q => N2.σ q.1
    | none => if c ∈ bn (cR bd R.hp S.fixed S.chunks) then none else R.σ c,
   fM R.hp (cR bd R.hp S.fixed S.chunks ++ jA (S.nm bd R.hp base) o.chunks yc)⟩
variable (H : ue R w w' S args bd xc N2 o yc base)
include H
theorem ue.inF : ∀ b o', R.Al bd S.bJ w b = some o' → N2.F b = some o' := fun b o' h => H.ext.F b o' h
theorem ue.inU : N2.U = R.Gt bd S.bJ w := H.ext.U
theorem ue.old : ∀ b, b < w.heap.size → ¬ R.vO bd b → w'.heap[b]? = w.heap[b]? :=
  stays H.hm H.inF H.inU H.hm2.F H.hm2.U
theorem atq {b : Nat} {o' : Obj} (h : R.F b = some o') : b < w.heap.size ∧ ¬ R.vO bd b :=
  ⟨(Array.getElem?_eq_some_iff.1 (H.hm.F b o' h)).1, fun hb => by rw [(za H.hm hb).1] at h; cases h⟩
theorem vX : ∀ b o', R.F b = some o' → R.gW bd w N2 b = some o' := fun b o' h => by
  unfold Ctx.gW
  rw [if_pos (atq H h)]
  exact h
theorem EV : ∀ b o', R.gW bd w N2 b = some o' → w'.heap[b]? = some o' := fun b o' h => by
  unfold Ctx.gW at h
  split at h
  · rename_i hb
    rw [H.old b hb.1 hb.2]; exact H.hm.F b o' h
  · exact H.hm2.F b o' h
theorem EW (hb : S.bJ = false) : ∀ b o', N2.F b = some o' → R.gW bd w N2 b = some o' := fun b o' h => by
  unfold Ctx.gW
  split
  · rename_i hq
    cases hR : R.F b with
    | some o2 =>
      have h1 := H.hm.F b o2 hR
      rw [← H.old b hq.1 hq.2, H.hm2.F b o' h] at h1
      exact h1.symm
    | none =>
      exfalso
      have h2 := H.hm2.FU b o' h
      rw [H.inU] at h2
      unfold Ctx.Gt at h2
      dsimp only at h2
      rw [if_neg (by rintro (h | h | ⟨o2, h⟩); exact hq.2 h; rw [hb] at h; cases h; rw [hR] at h; cases h)] at h2
      simp [hq.1] at h2
  · exact h
theorem EU {b : Nat} (hF : N2.F b = none) (hU : N2.U b = none) : R.F b = none ∧ R.U b = none ∧ R.gW bd w N2 b = none ∧ (w.heap.size ≤ b ∨ R.vO bd b) := by
  by_cases hb : b < w.heap.size
  · have hs : w.heap[b]? = some w.heap[b] := by simp [hb]
    have hbd : R.vO bd b := Classical.byContradiction fun hn => by
      have h1 : R.Al bd S.bJ w b = none := by
        cases hq : R.Al bd S.bJ w b with
        | none => rfl
        | some o' => rw [H.inF b o' hq] at hF; cases hF
      rw [H.inU] at hU
      unfold Ctx.Gt at hU
      dsimp only at hU
      unfold Ctx.Al at h1
      rw [if_neg hn] at h1
      by_cases hbo : S.bJ = true
      · rw [if_pos hbo, hs] at h1; cases h1
      · rw [if_neg hbo] at h1
        rw [if_neg (by rintro (h | h | ⟨o2, h⟩); exact hn h; exact hbo h; rw [h1] at h; cases h), hs] at hU
        cases hU
    refine ⟨(za H.hm hbd).1, (za H.hm hbd).2, ?_, .inr hbd⟩
    unfold Ctx.gW
    rw [if_neg (fun h => h.2 hbd)]
    exact hF
  · refine ⟨?_, ?_, ?_, .inl (by omega)⟩
    · cases hR : R.F b with
      | none => rfl
      | some o' => exact absurd (atq H hR).1 hb
    · cases hR : R.U b with
      | none => rfl
      | some o' => exact absurd (Array.getElem?_eq_some_iff.1 (H.hm.U b o' hR)).1 hb
    · unfold Ctx.gW
      rw [if_neg (fun h => hb h.1)]
      exact hF
theorem np : S.bJ = false ∨ (o.rs.any Sh.cD = false ∧ ∀ q ∈ o.chunks, q.2.cD = false ∧ (q.2.Ou = true → q.1 < S.fixed)) := by
  have h := H.tu
  unfold av.tu at h
  simp only [Bool.and_eq_true] at h
  have h1 := h.1
  cases hb : S.bJ
  · exact .inl rfl
  · right
    rw [hb] at h1
    simp only [Bool.not_true, Bool.false_or, Bool.not_eq_true', Bool.or_eq_false_iff] at h1
    refine ⟨h1.1, fun q hq => ?_⟩
    have h2 := List.any_eq_false.1 h1.2 q hq
    simp only [Bool.or_eq_true, Bool.and_eq_true, Bool.not_eq_true', not_or, not_and] at h2
    refine ⟨by simpa using h2.1, fun hf => ?_⟩
    have := h2.2 hf
    exact cL (by simpa using this)
theorem EC {k : Nat} (hk : k < S.fixed) : (∃ c, cX bd k = some (some c)) ∧ ∃ s, (k, s) ∈ o.chunks := by
  have h := H.tu
  unfold av.tu at h
  simp only [Bool.and_eq_true, List.all_eq_true] at h
  have h1 := h.2.1 k (by simpa using hk)
  constructor
  · have h2 := h1.1
    split at h2
    · rename_i c hc; exact ⟨c, hc⟩
    · cases h2
  · obtain ⟨q, hq, he⟩ := List.any_eq_true.1 h1.2
    have := Nat.eq_of_beq_eq_true he
    subst this
    exact ⟨q.2, hq⟩
theorem ahl {q : Nat × CSh} (hq : q ∈ o.chunks) {q' : Nat × CSh} (hq' : q' ∈ S.chunks) (he : q.1 = q'.1) (hf : q.1 < S.fixed) : q.2.Ou = q'.2.Ou := by
  have h := H.tu
  unfold av.tu at h
  simp only [Bool.and_eq_true, List.all_eq_true] at h
  have h1 := h.2.2.1 q hq q' hq'
  simp only [he, Nat.beq_refl, Bool.not_true, Bool.false_or] at h1
  rw [he] at hf
  rw [PF hf] at h1
  simpa using h1
theorem pC {q : Nat × CSh} (hq : q ∈ o.chunks) : q.2.vv = false ∧ (q.1 < S.fixed ∨ (q.1 - S.fixed < 64 ∧ R.hp (base + (q.1 - S.fixed)) = none)) := by
  have h := H.tu
  unfold av.tu at h
  simp only [Bool.and_eq_true, List.all_eq_true] at h
  have h1 := h.2.2.2 q hq
  simp only [Bool.or_eq_true, Bool.and_eq_true, Bool.not_eq_true'] at h1
  refine ⟨h1.1, ?_⟩
  rcases h1.2 with h2 | h2
  · exact .inl (cL h2)
  · refine .inr ⟨cL h2.1, ?_⟩
    have := h2.2
    cases hq : R.hp (base + (q.1 - S.fixed)) with
    | none => rfl
    | some c => rw [hq] at this; cases this
end
end Sx
end Go.Proofs.YtohjofabochgfaaGreat

namespace Go.Proofs.YtohjofabochgfaaGreat
namespace Sx
open Go
section
variable {R : Ctx} {w w' : World} {S : av} {args : List SV} {bd : Bd} {xc : Ga S.chunks} {N N2 : Ctx} {o : az} {yc : Ga o.chunks} {base : Nat}
variable (H : ue R w w' S args bd xc N2 o yc base)
include H
theorem HG {n : Nat} {s : CSh} (h : (n, s) ∈ o.chunks) : ∃ y : s.T, N2.hp n = some ⟨0, bI s y⟩ ∧ ((S.nm bd R.hp base n).1, (⟨(S.nm bd R.hp base n).2, dA (S.nm bd R.hp base) s y⟩ : Ch)) ∈ jA (S.nm bd R.hp base) o.chunks yc := by
  obtain ⟨bd2, ok2, hp2, hp⟩ := H.atz
  obtain ⟨ch, hch⟩ := pc (x := yc) (n := n) ⟨s, h⟩
  obtain ⟨s', y, h1, h2, h3⟩ := dP hp hch
  obtain rfl := gM H.aq2 h h1
  have hg := (pC H h).1
  have hep : s.ep = 0 := by cases s <;> first | rfl | (cases hg; done)
  refine ⟨y, by rw [H.hp2, hch, h3, hep], ?_⟩
  have : ∀ {l : List (Nat × CSh)} {x : Ga l}, dL bd2 ok2 hp2 l = some x → (n, s) ∈ l → ((S.nm bd R.hp base n).1, (⟨(S.nm bd R.hp base n).2, dA (S.nm bd R.hp base) s y⟩ : Ch)) ∈ jA (S.nm bd R.hp base) l x := by
    intro l
    induction l with
    | nil => intro x _ hm; cases hm
    | cons q r ih =>
      intro x hp hm
      obtain ⟨p1, p2⟩ := bC hp
      simp only [jA, List.mem_cons]
      rcases List.mem_cons.1 hm with he | he
      · subst he
        left
        have : x.1 = y := by
          have := p1.symm.trans h2
          exact Option.some.inj this
        rw [this]
      · exact .inr (ih p2 he)
  exact this hp h
theorem Zm {c : Nat} {ch : Ch} (h : (c, ch) ∈ jA (S.nm bd R.hp base) o.chunks yc) : ∃ n s, ∃ y : s.T, (n, s) ∈ o.chunks ∧ c = (S.nm bd R.hp base n).1 ∧ N2.hp n = some ⟨0, bI s y⟩ ∧ ch = ⟨(S.nm bd R.hp base n).2, dA (S.nm bd R.hp base) s y⟩ := by
  obtain ⟨bd2, ok2, hp2, hp⟩ := H.atz
  obtain ⟨n, s, y, h1, h2, h3, h4⟩ := um hp h
  refine ⟨n, s, y, h1, h2, ?_, h4⟩
  obtain ⟨ch, hch⟩ := pc (x := yc) (n := n) ⟨s, h1⟩
  obtain ⟨s', y', k1, k2, k3⟩ := dP hp hch
  obtain rfl := gM H.aq2 h1 k1
  have : y = y' := Option.some.inj (h3.symm.trans k2)
  subst this
  have hg := (pC H h1).1
  have hep : s.ep = 0 := by cases s <;> first | rfl | (cases hg; done)
  rw [H.hp2, hch, k3, hep]
omit H in
theorem Dg {n : Nat} (h : n < S.fixed) : S.nm bd R.hp base n = (nameOf bd n, YD R.hp (nameOf bd n)) := by
  unfold av.nm; rw [PF h]; rfl
omit H in
theorem alO {n : Nat} (h : S.fixed ≤ n) : S.nm bd R.hp base n = (base + (n - S.fixed), 0) := by
  unfold av.nm
  have : Nat.blt n S.fixed = false := by
    cases hq : Nat.blt n S.fixed
    · rfl
    · have := cL hq; omega
  rw [this]; rfl
theorem ko {k : Nat} (hk : k < S.fixed) : ∃ c ch, ∃ ch2 : Ch, cX bd k = some (some c) ∧ nameOf bd k = c ∧ R.hp c = some ch ∧ YD R.hp c = ch.ep ∧ N2.hp k = some ch2 ∧ ch2.ep = 0 ∧ ch2.body.shape = ch.body.shape ∧ N2.σ k = R.σ c ∧
    (∃ cs, (k, cs) ∈ S.chunks ∧ (!cs.Ou) = ch.body.mut) := by
  obtain ⟨⟨c, hb⟩, s, hs⟩ := EC H hk
  obtain ⟨cs, y, h1, h2⟩ := Lq (s := S.inp) (st := ⟨args, R.hp⟩) H.ok H.hx hb
  simp only [jf, hb] at h1
  split at h1
  · rename_i ch hch
    obtain ⟨y2, g1, _⟩ := HG H hs
    obtain ⟨ch2, e1, e2, e3⟩ := H.ext.ch k ⟨0, bI cs y⟩ (by
      show cond (Nat.blt k S.fixed) (dI S.chunks xc k) none = _
      rw [PF hk]; exact h2)
    rw [g1] at e1
    cases e1
    have e4 := e3 rfl
    refine ⟨c, ch, _, hb, by simp only [nameOf, hb], hch, by simp only [YD, show R.hp c = some ch from hch], g1, rfl, e4.1.trans (r7 h1), ?_, ?_⟩
    · rw [e4.2]; simp only [Ctx.att, Ctx.named, hb]
    · obtain ⟨s3, y3, k1, k2, k3⟩ := dP H.hx h2
      simp only [jf, hb, show R.hp c = some ch from hch] at k2
      refine ⟨s3, k1, ?_⟩
      rw [← Ab k2, Oy]
  · cases h1
theorem ann {n m : Nat} {s s' : CSh} (hn : (n, s) ∈ o.chunks) (hm : (m, s') ∈ o.chunks) (h : (S.nm bd R.hp base n).1 = (S.nm bd R.hp base m).1) : n = m := by
  have half : ∀ {a b : Nat} {t t' : CSh}, (a, t) ∈ o.chunks → (b, t') ∈ o.chunks → a < S.fixed → S.fixed ≤ b → (S.nm bd R.hp base a).1 = (S.nm bd R.hp base b).1 → False := fun {a b t t'} h1 h2 h3 h4 h5 => by
    rw [Dg h3, alO h4] at h5
    obtain ⟨c, ch, _, g1, g2, g3, _⟩ := ko H h3
    rcases (pC H h2).2 with hq | hq
    · have : b < S.fixed := hq
      omega
    · simp only at h5
      rw [← h5, g2, g3] at hq
      cases hq.2
  rcases Nat.lt_or_ge n S.fixed with h1 | h1 <;> rcases Nat.lt_or_ge m S.fixed with h2 | h2
  · rw [Dg h1, Dg h2] at h
    obtain ⟨c, _, _, g1, g2, _⟩ := ko H h1
    obtain ⟨c', _, _, g1', g2', _⟩ := ko H h2
    have hcc : c = c' := by rw [← g2, ← g2']; exact h
    have hok := H.ok
    unfold Shape.Gb at hok
    simp only [Bool.and_eq_true, List.all_eq_true, List.any_eq_true] at hok
    obtain ⟨p, hp, hpe⟩ := hok.1.2 _ (jx g1)
    obtain ⟨p', hp', hpe'⟩ := hok.1.2 _ (jx g1')
    have e1 := Nat.eq_of_beq_eq_true hpe
    have e2 := Nat.eq_of_beq_eq_true hpe'
    have h3 := hok.1.1.2 p hp p' hp'
    rw [e1, e2] at h3
    simp only at h3
    rw [g1, g1', hcc] at h3
    simp only [Nat.beq_refl, Bool.not_true, Bool.or_false] at h3
    exact Nat.eq_of_beq_eq_true h3
  · exact (half hn hm h1 h2 h).elim
  · exact (half hm hn h2 h1 h.symm).elim
  · rw [alO h1, alO h2] at h
    simp only at h
    omega
theorem Jh {n : Nat} {s : CSh} (h : (n, s) ∈ o.chunks) : (R.dC bd w S N2 o yc base).σ (S.nm bd R.hp base n).1 = N2.σ n := by
  show (match o.chunks.find? (fun q => Nat.beq (S.nm bd R.hp base q.1).1 (S.nm bd R.hp base n).1) with | some q => N2.σ q.1 | none => _) = _
  cases hf : o.chunks.find? (fun q => Nat.beq (S.nm bd R.hp base q.1).1 (S.nm bd R.hp base n).1) with
  | none =>
    have := List.find?_eq_none.1 hf (n, s) h
    simp at this
  | some q =>
    have h1 := List.find?_some hf
    have h2 := List.mem_of_find?_eq_some hf
    have h3 : q.1 = n := ann H (s := q.2) (s' := s) h2 h (Nat.eq_of_beq_eq_true h1)
    simp only [h3]
omit H in
theorem Mo {c : Nat} (h : c ∉ bn (jA (S.nm bd R.hp base) o.chunks yc)) : (R.dC bd w S N2 o yc base).σ c = (open Classical in if c ∈ bn (cR bd R.hp S.fixed S.chunks) then none else R.σ c) := by
  show (match o.chunks.find? (fun q => Nat.beq (S.nm bd R.hp base q.1).1 c) with | some q => N2.σ q.1 | none => _) = _
  cases hf : o.chunks.find? (fun q => Nat.beq (S.nm bd R.hp base q.1).1 c) with
  | none => rfl
  | some q =>
    exfalso
    have h1 := Nat.eq_of_beq_eq_true (List.find?_some (p := fun q : Nat × CSh => Nat.beq (S.nm bd R.hp base q.1).1 c) hf)
    have h2 := List.mem_of_find?_eq_some hf
    exact h (mM.2 ⟨q.1, q.2, h2, h1.symm⟩)
theorem KB {c : Nat} {ch : Ch} (h : (R.dC bd w S N2 o yc base).hp c = some ch) :
    (∃ n s, ∃ y : s.T, (n, s) ∈ o.chunks ∧ c = (S.nm bd R.hp base n).1 ∧ N2.hp n = some ⟨0, bI s y⟩ ∧ ch = ⟨(S.nm bd R.hp base n).2, dA (S.nm bd R.hp base) s y⟩ ∧ (R.dC bd w S N2 o yc base).σ c = N2.σ n) ∨
    (ch = ⟨YD R.hp c + 1, .row .u8 []⟩ ∧ (R.dC bd w S N2 o yc base).σ c = none) ∨
    (c ∉ bn (jA (S.nm bd R.hp base) o.chunks yc) ∧ c ∉ bn (cR bd R.hp S.fixed S.chunks) ∧ R.hp c = some ch ∧ (R.dC bd w S N2 o yc base).σ c = R.σ c) := by
  have hh : fM (fM R.hp (cR bd R.hp S.fixed S.chunks)) (jA (S.nm bd R.hp base) o.chunks yc) c = some ch := by
    rw [← fR]; exact h
  by_cases h1 : c ∈ bn (jA (S.nm bd R.hp base) o.chunks yc)
  · obtain ⟨ch', h2, h3⟩ := oO _ (hp := fM R.hp (cR bd R.hp S.fixed S.chunks)) h1
    rw [h3] at hh
    cases hh
    obtain ⟨n, s, y, k1, k2, k3, k4⟩ := Zm H h2
    exact .inl ⟨n, s, y, k1, k2, k3, k4, by rw [k2]; exact Jh H k1⟩
  · rw [dt _ h1] at hh
    have hs := Mo (w := w) (N2 := N2) h1
    by_cases h2 : c ∈ bn (cR bd R.hp S.fixed S.chunks)
    · obtain ⟨ch', h3, h4⟩ := oO _ (hp := R.hp) h2
      rw [h4] at hh
      cases hh
      rw [if_pos h2] at hs
      exact .inr (.inl ⟨(jB h3).2, hs⟩)
    · rw [dt _ h2] at hh
      rw [if_neg h2] at hs
      exact .inr (.inr ⟨h1, h2, hh, hs⟩)
theorem Zl {c : Nat} {ch ch' : Ch} (h : (c, ch) ∈ jA (S.nm bd R.hp base) o.chunks yc) (h' : (c, ch') ∈ jA (S.nm bd R.hp base) o.chunks yc) : ch = ch' := by
  obtain ⟨bd2, ok2, hp2, hp⟩ := H.atz
  obtain ⟨n, s, y, a1, a2, a3, a4⟩ := um hp h
  obtain ⟨n', s', y', b1, b2, b3, b4⟩ := um hp h'
  have e1 := ann H a1 b1 (a2.symm.trans b2)
  subst e1
  obtain rfl := gM H.aq2 a1 b1
  have e2 : y = y' := Option.some.inj (a3.symm.trans b3)
  rw [a4, b4, e2]
theorem asH {n : Nat} {s : CSh} (h : (n, s) ∈ o.chunks) : ∃ y : s.T, N2.hp n = some ⟨0, bI s y⟩ ∧ (R.dC bd w S N2 o yc base).hp (S.nm bd R.hp base n).1 = some ⟨(S.nm bd R.hp base n).2, dA (S.nm bd R.hp base) s y⟩ := by
  obtain ⟨y, h1, h2⟩ := HG H h
  refine ⟨y, h1, ?_⟩
  obtain ⟨ch', h3, h4⟩ := oO _ (hp := fM R.hp (cR bd R.hp S.fixed S.chunks)) (age h2)
  have e := Zl H h2 h3
  rw [e, ← h4]
  show fM R.hp (_ ++ _) _ = _
  rw [fR]
theorem aem : Lx N2 (R.dC bd w S N2 o yc base) (S.nm bd R.hp base) (!S.bJ) := by
  refine ⟨fun n ch h => ?_, fun h b o' hb => EW H (by simpa using h) b o' hb⟩
  rw [H.hp2] at h
  obtain ⟨bd2, ok2, hp2, hp⟩ := H.atz
  obtain ⟨s, y, h1, _, _⟩ := dP hp h
  obtain ⟨y', k1, k2⟩ := asH H h1
  rw [H.hp2, h] at k1
  cases k1
  exact ⟨rfl, _, k2, rfl, pd, Jh H h1⟩
theorem HH {c : Nat} {ch : Ch} {L : Loc} (h1 : c ∉ bn (jA (S.nm bd R.hp base) o.chunks yc)) (h2 : c ∉ bn (cR bd R.hp S.fixed S.chunks)) (hc : R.hp c = some ch) (hm : ch.body.mut = true) (hL : R.σ c = some L) : ¬ R.vO bd L.block := by
  rintro ⟨n, c', ch', L', k1, k2, k3, k4, k5⟩
  have := H.hm.apart c' c ch' ch L' L k2 hc k3 hm k4 hL k5
  subst this
  rcases Nat.lt_or_ge n S.fixed with hn | hn
  · obtain ⟨_, s, hs⟩ := EC H hn
    refine h1 (mM.2 ⟨n, s, hs, ?_⟩)
    rw [Dg hn]
    simp only [nameOf, k1]
  · have hok := H.ok
    unfold Shape.Gb at hok
    simp only [Bool.and_eq_true, List.all_eq_true, List.any_eq_true] at hok
    obtain ⟨p, hp, hpe⟩ := hok.1.2 _ (jx k1)
    have e1 : p.1 = n := Nat.eq_of_beq_eq_true hpe
    subst e1
    exact h2 (B9 (s := p.2) hp k1 hn)
end
end Sx
end Go.Proofs.YtohjofabochgfaaGreat

namespace Go.Proofs.YtohjofabochgfaaGreat
namespace Sx
open Go
theorem vM {N R : Ctx} {ν : Nm} {lists : Bool} (hr : Lx N R ν lists) : ∀ {l : List Sh} (_ : lists = true ∨ l.any Sh.cD = false) {x : ShT l} {us : List Value}, SV.bQ N (jp l x) us → SV.bQ R (mf ν l x) us
  | [], _, _, _, h => h
  | s :: r, hl, x, us, h => by
    have h1 : lists = true ∨ s.cD = false := hl.imp_right fun e => by simp only [List.any_cons, Bool.or_eq_false_iff] at e; exact e.1
    have h2 : lists = true ∨ r.any Sh.cD = false := hl.imp_right fun e => by simp only [List.any_cons, Bool.or_eq_false_iff] at e; exact e.2
    simp only [jp] at h
    simp only [mf]
    have hlen := SV.aQ h
    have t1 := SV.ec h (pb s x.1).length
    have t2 := SV.ee h (pb s x.1).length
    rw [List.take_left] at t1
    rw [List.drop_left] at t2
    have := SV.cB (ta hr h1 t1) (vM hr h2 t2)
    rwa [List.take_append_drop] at this
section
variable {R : Ctx} {w w' : World} {S : av} {args : List SV} {bd : Bd} {xc : Ga S.chunks} {N N2 : Ctx} {o : az} {yc : Ga o.chunks} {base : Nat}
variable (H : ue R w w' S args bd xc N2 o yc base)
include H
theorem YS : R.Ext (R.dC bd w S N2 o yc base) := by
  refine ⟨vX H, rfl, fun c ch hc => ?_⟩
  by_cases h1 : c ∈ bn (jA (S.nm bd R.hp base) o.chunks yc)
  · obtain ⟨n, s, hs, rfl⟩ := mM.1 h1
    obtain ⟨y, k1, k2⟩ := asH H hs
    refine ⟨_, k2, ?_⟩
    rcases Nat.lt_or_ge n S.fixed with hn | hn
    · obtain ⟨c', ch', ch2, g1, g2, g3, g4, g5, g6, g7, g8, _⟩ := ko H hn
      have hσ := Jh H hs
      rw [Dg hn] at hc hσ ⊢
      simp only [g2] at hc hσ ⊢
      rw [g3] at hc
      cases hc
      rw [k1] at g5
      cases g5
      refine ⟨by rw [g4]; exact Nat.le_refl _, fun _ => ⟨?_, ?_⟩⟩
      · simp only [pd]; exact g7
      · rw [hσ, g8]
    · exfalso
      rcases (pC H hs).2 with hq | hq
      · have : n < S.fixed := hq
        omega
      · rw [alO hn] at hc
        have h2 : R.hp (base + (n - S.fixed)) = none := hq.2
        rw [h2] at hc
        cases hc
  · by_cases h2 : c ∈ bn (cR bd R.hp S.fixed S.chunks)
    · obtain ⟨ch', h3, h4⟩ := oO _ (hp := R.hp) h2
      refine ⟨ch', ?_, ?_⟩
      · show fM R.hp (_ ++ _) c = _
        rw [fR, dt _ h1, h4]
      · rw [(jB h3).2]
        have : YD R.hp c = ch.ep := by simp only [YD, hc]
        rw [this]
        exact ⟨Nat.le_succ _, fun e => absurd e (by simp)⟩
    · refine ⟨ch, ?_, Nat.le_refl _, fun _ => ⟨rfl, ?_⟩⟩
      · show fM R.hp (_ ++ _) c = _
        rw [fR, dt _ h1, dt _ h2, hc]
      · rw [Mo h1, if_neg h2]
theorem ael {s : CSh} {n : Nat} (h : (n, s) ∈ o.chunks) (t : Ty) (ht : s = .row t ∨ s = .frz t) : ∀ (x : t.T) (cs : List Value), Rep N2.F t x cs → Rep (R.gW bd w N2) t x cs := fun x cs hr => by
  rcases np H with hb | ⟨_, hq⟩
  · exact bZ (EW H hb) _ _ _ hr
  · have := (hq _ h).1
    refine rF t ?_ x cs hr
    rcases ht with rfl | rfl <;> exact this
theorem al5 {s : CSh} {n : Nat} (h : (n, s) ∈ o.chunks) : (!S.bJ) = true ∨ s.cD = false := by
  rcases np H with hb | ⟨_, hq⟩
  · exact .inl (by rw [hb]; rfl)
  · exact .inr (hq _ h).1
theorem Tu {n : Nat} {s : CSh} {y : s.T} (hs : (n, s) ∈ o.chunks) (hn : N2.hp n = some ⟨0, bI s y⟩) {e : Nat} {c : Nat} (hσ : (R.dC bd w S N2 o yc base).σ c = N2.σ n) (hc : c = (S.nm bd R.hp base n).1) :
    fm (R.dC bd w S N2 o yc base) w' c ⟨e, dA (S.nm bd R.hp base) s y⟩ := by
  have h0 := H.hm2.ch n _ hn
  have hrep := ael H hs
  have hgone := (pC H hs).1
  cases s with
  | row t =>
    simp only [fm, bI, dA] at h0 ⊢
    rw [hσ]
    refine ⟨h0.1, h0.2.1, ?_⟩
    cases hL : N2.σ n with
    | none => have := h0.2.2; rw [hL] at this; exact this
    | some L =>
      have := h0.2.2
      rw [hL] at this
      obtain ⟨c1, c2, arr, E, c3, c4, c5, c6⟩ := this
      obtain ⟨_, d2, d3, _⟩ := EU H c1 c2
      exact ⟨d3, d2, arr, E, c3, c4, c5, fun i hi => hrep t (.inl rfl) _ _ (c6 i hi)⟩
  | frz t =>
    simp only [fm, bI, dA] at h0 ⊢
    rw [hσ]
    refine ⟨h0.1, h0.2.1, ?_⟩
    cases hL : N2.σ n with
    | none => have := h0.2.2; rw [hL] at this; exact this
    | some L =>
      have := h0.2.2
      rw [hL] at this
      obtain ⟨arr, E, fz, c3, c4, c5, c6⟩ := this
      refine ⟨arr, E, fz, ?_, c4, c5, fun i hi => hrep t (.inr rfl) _ _ (c6 i hi)⟩
      show R.gW bd w N2 L.block = _
      rcases np H with hb | ⟨_, hq⟩
      · exact EW H hb _ _ c3
      · have hf : n < S.fixed := (hq _ hs).2 rfl
        obtain ⟨c', ch', ch2, g1, g2, g3, g4, g5, g6, g7, g8, cs, g9, g10⟩ := ko H hf
        have hfz := ahl H hs g9 rfl hf
        have hmu : ch'.body.mut = false := by rw [← g10, ← hfz]; rfl
        obtain ⟨o', ho⟩ := (dE H.hm g3 (by rw [← g8]; exact hL)).2 hmu
        have h1 := vX H _ _ ho
        have h2 := EV H _ _ h1
        rw [H.hm2.F _ _ c3] at h2
        cases h2
        exact h1
  | cells l =>
    simp only [fm, bI, dA] at h0 ⊢
    obtain ⟨L, h1, h2, h3, arr, E, h4, h5, h6, h7, h8⟩ := h0
    obtain ⟨_, d2, d3, _⟩ := EU H h2 h3
    refine ⟨L, by rw [hσ]; exact h1, d3, d2, arr, E, h4, h5, h6.trans (iV (l := l) (x := y)).symm, vM (aem H) ?_ h7, h8⟩
    exact al5 H hs
  | gone => cases hgone
theorem amJ : dj (R.dC bd w S N2 o yc base) w' := by
  refine ⟨EV H, fun b o' h => ?_, fun c ch hc => ?_, fun c c' ch ch' L L' h1 h2 m1 m2 s1 s2 hb => ?_, fun b o' h => ?_, by have h2 := H.hm2.env; rw [H.inU] at h2; exact h2⟩
  · have h1 := H.hm.U b o' h
    have hlt := (Array.getElem?_eq_some_iff.1 h1).1
    replace h : R.U b = some o' := h
    rw [H.old b hlt (fun hq => by rw [(za H.hm hq).2] at h; cases h)]
    exact h1
  · rcases KB H hc with ⟨n, s, y, k1, k2, k3, rfl, k5⟩ | ⟨rfl, k2⟩ | ⟨k1, k2, k3, k4⟩
    · exact Tu H k1 k3 k5 k2
    · simp only [fm]
      rw [k2]
      exact ⟨by decide, by simp, trivial⟩
    · have h0 := H.hm.ch c ch k3
      have hfree : ∀ L, ch.body.mut = true → R.σ c = some L → ¬ R.vO bd L.block := fun L hm hL => HH H k1 k2 k3 hm hL
      obtain ⟨ep, body⟩ := ch
      cases body with
      | row t xs =>
        simp only [fm] at h0 ⊢
        rw [k4]
        refine ⟨h0.1, h0.2.1, ?_⟩
        cases hL : R.σ c with
        | none => have := h0.2.2; rw [hL] at this; exact this
        | some L =>
          have := h0.2.2
          rw [hL] at this
          obtain ⟨c1, c2, arr, E, c3, c4, c5, c6⟩ := this
          have hlt := (Array.getElem?_eq_some_iff.1 c3).1
          have hf := hfree L rfl hL
          refine ⟨?_, c2, arr, E, (H.old _ hlt hf).trans c3, c4, c5, fun i hi => bZ (vX H) _ _ _ (c6 i hi)⟩
          show R.gW bd w N2 L.block = none
          unfold Ctx.gW
          rw [if_pos ⟨hlt, hf⟩]
          exact c1
      | frz t xs =>
        simp only [fm] at h0 ⊢
        rw [k4]
        refine ⟨h0.1, h0.2.1, ?_⟩
        cases hL : R.σ c with
        | none => have := h0.2.2; rw [hL] at this; exact this
        | some L =>
          have := h0.2.2
          rw [hL] at this
          obtain ⟨arr, E, fz, c3, c4, c5, c6⟩ := this
          exact ⟨arr, E, fz, vX H _ _ c3, c4, c5, fun i hi => bZ (vX H) _ _ _ (c6 i hi)⟩
      | cells vs =>
        simp only [fm] at h0 ⊢
        obtain ⟨L, hL, c1, c2, arr, E, c3, c4, c5, c6, c7⟩ := h0
        have hlt := (Array.getElem?_eq_some_iff.1 c3).1
        have hf := hfree L rfl hL
        refine ⟨L, k4.trans hL, ?_, c2, arr, E, (H.old _ hlt hf).trans c3, c4, c5, SV.fc (YS H) _ _ c6, c7⟩
        show R.gW bd w N2 L.block = none
        unfold Ctx.gW
        rw [if_pos ⟨hlt, hf⟩]
        exact c1
  · have inn : ∀ (n : Nat) (s : CSh) (y : s.T) (L : Loc), N2.hp n = some ⟨0, bI s y⟩ → (bI s y).mut = true → N2.σ n = some L → w.heap.size ≤ L.block ∨ R.vO bd L.block := fun n s y L a1 a2 a3 => by
      have := (dE H.hm2 a1 a3).1 a2
      exact (EU H this.1 this.2).2.2.2
    have out : ∀ (c : Nat) (ch : Ch) (L : Loc), c ∉ bn (jA (S.nm bd R.hp base) o.chunks yc) → c ∉ bn (cR bd R.hp S.fixed S.chunks) → R.hp c = some ch → ch.body.mut = true → R.σ c = some L → L.block < w.heap.size ∧ ¬ R.vO bd L.block := fun c ch L a1 a2 a3 a4 a5 => by
      refine ⟨?_, HH H a1 a2 a3 a4 a5⟩
      have h0 := H.hm.ch c ch a3
      obtain ⟨ep, body⟩ := ch
      cases body with
      | row t xs =>
        simp only [fm, a5] at h0
        obtain ⟨_, _, _, _, arr, E, c3, _⟩ := h0
        exact (Array.getElem?_eq_some_iff.1 c3).1
      | frz t xs => cases a4
      | cells vs =>
        simp only [fm] at h0
        obtain ⟨L', hL, _, _, arr, E, c3, _⟩ := h0
        rw [a5] at hL
        cases hL
        exact (Array.getElem?_eq_some_iff.1 c3).1
    rcases KB H h1 with ⟨n, s, y, k1, k2, k3, rfl, k5⟩ | ⟨rfl, k2⟩ | ⟨k1, k2, k3, k4⟩ <;>
      rcases KB H h2 with ⟨n', s', y', k1', k2', k3', rfl, k5'⟩ | ⟨rfl, k2'⟩ | ⟨k1', k2', k3', k4'⟩
    · rw [k5] at s1
      rw [k5'] at s2
      have a1 : (bI s y).mut = true := by rw [← jo]; exact m1
      have a2 : (bI s' y').mut = true := by rw [← jo]; exact m2
      have := H.hm2.apart n n' _ _ L L' k3 k3' a1 a2 s1 s2 hb
      rw [k2, k2', this]
    · rw [k2'] at s2; cases s2
    · rw [k5] at s1
      rw [k4'] at s2
      have a1 : (bI s y).mut = true := by rw [← jo]; exact m1
      have h3 := inn n s y L k3 a1 s1
      have h4 := out c' ch' L' k1' k2' k3' m2 s2
      rw [hb] at h3
      rcases h3 with h3 | h3
      · omega
      · exact absurd h3 h4.2
    · rw [k2] at s1; cases s1
    · rw [k2] at s1; cases s1
    · rw [k2] at s1; cases s1
    · rw [k5'] at s2
      rw [k4] at s1
      have a1 : (bI s' y').mut = true := by rw [← jo]; exact m2
      have h3 := inn n' s' y' L' k3' a1 s2
      have h4 := out c ch L k1 k2 k3 m1 s1
      rw [← hb] at h3
      rcases h3 with h3 | h3
      · omega
      · exact absurd h3 h4.2
    · rw [k2'] at s2; cases s2
    · rw [k4] at s1
      rw [k4'] at s2
      exact H.hm.apart c c' ch ch' L L' k3 k3' m1 m2 s1 s2 hb
  · replace h : R.gW bd w N2 b = some o' := h
    show R.U b = none
    unfold Ctx.gW at h
    split at h
    · exact H.hm.FU b o' h
    · rename_i hq
      cases hU : R.U b with
      | none => rfl
      | some o2 =>
        have hlt := (Array.getElem?_eq_some_iff.1 (H.hm.U b o2 hU)).1
        refine absurd ⟨hlt, fun hbd => ?_⟩ hq
        rw [(za H.hm hbd).2] at hU
        cases hU
theorem abT : eH R (R.dC bd w S N2 o yc base) w' (cR bd R.hp S.fixed S.chunks ++ jA (S.nm bd R.hp base) o.chunks yc) :=
  ⟨YS H, rfl, amJ H⟩
end
end Sx
end Go.Proofs.YtohjofabochgfaaGreat
